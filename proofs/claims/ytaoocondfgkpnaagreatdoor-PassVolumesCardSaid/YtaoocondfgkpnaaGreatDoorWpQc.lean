import Derived.Test.YtaoocondfgkpnaaGreatDoorVmBC
import Derived.Test.YtaoocondfgkpnaaGreatDoorWpQb
set_option linter.all false
namespace Go.Vm
open Go.Proofs
set_option maxRecDepth 20000
set_option maxHeartbeats 8000000
theorem iri {k : IntKind} {n : Int} : isRow [L.p (V.i k n)] = false := rfl
theorem valD_set {l : List Int} {j : Nat} (x : Int) (h : j < l.length) : valD (l.set j x) = valD l + Bp j * (x - l.getD j 0) := by
  induction l generalizing j with
  | nil => simp at h
  | cons d l ih =>
    cases j with
    | zero => simp [valD, Bp]; omega
    | succ j =>
      have := ih (j := j) (by simpa using h)
      simp only [List.set_cons_succ, valD, this, Bp_succ, List.getD_cons_succ]
      grind
theorem valD_rep (n : Nat) : valD (List.replicate n 0) = 0 := by
  induction n with
  | zero => rfl
  | succ n ih => simp only [List.replicate_succ, valD, ih]; rfl
theorem Dig.rep (n : Nat) : Dig (List.replicate n 0) := fun d hd => by
  rw [List.mem_replicate] at hd; omega
theorem Dig.set {l : List Int} (h : Dig l) {j : Nat} {x : Int} (h0 : 0 ≤ x) (h1 : x < 1000000000) : Dig (l.set j x) := fun d hd => by
  rcases List.mem_or_eq_of_mem_set hd with hd | rfl
  · exact h d hd
  · exact ⟨h0, h1⟩
theorem getD_rep (n j : Nat) : (List.replicate n (0 : Int)).getD j 0 = 0 := by
  simp only [List.getD, List.getElem?_replicate]; split <;> rfl
theorem getD_set_ne {l : List Int} {i j : Nat} {x : Int} (h : i ≠ j) : (l.set i x).getD j 0 = l.getD j 0 := by
  simp only [List.getD, List.getElem?_set_ne h]
theorem valD_take {l : List Int} {k : Nat} (h : k < l.length) : valD (l.take (k + 1)) = valD (l.take k) + Bp k * l.getD k 0 := by
  rw [takeS (0 : Int) h, valD_snoc, List.length_take, Nat.min_eq_left (by omega)]
theorem map_set' {l : List Int} {i : Nat} {x : Int} : (l.map nn).set i (nn x) = (l.set i x).map nn := by rw [List.map_set]
structure MulO (A B o : List Int) (i : Nat) : Prop where
  dig : Dig o
  len : o.length = A.length + B.length + 1
  val : valD o = valD (A.take i) * valD B
  zer : ∀ j, i + B.length ≤ j → o.getD j 0 = 0
structure MulI (A B o : List Int) (i k : Nat) (c : Int) : Prop where
  dig : Dig o
  len : o.length = A.length + B.length + 1
  val : valD o + Bp (i + k) * c = valD (A.take i) * valD B + Bp i * (A.getD i 0 * valD (B.take k))
  zer : ∀ j, i + B.length ≤ j → o.getD j 0 = 0
  car : 0 ≤ c ∧ c < 1000000000
theorem MulO.start (A B : List Int) : MulO A B (List.replicate (A.length + B.length + 1) 0) 0 :=
  ⟨Dig.rep _, by simp, by rw [valD_rep]; simp [valD], fun j _ => getD_rep _ j⟩
theorem MulO.inner {A B o : List Int} {i : Nat} (h : MulO A B o i) : MulI A B o i 0 0 :=
  ⟨h.dig, h.len, by rw [h.val]; simp [valD], h.zer, by omega⟩
theorem MulI.step {A B o : List Int} {i k : Nat} {c : Int} (h : MulI A B o i k c) (hA : Dig A) (hB : Dig B) (hi : i < A.length) (hk : k < B.length) (s : Int) (hs : s = o.getD (i + k) 0 + A.getD i 0 * B.getD k 0 + c) : (0 ≤ s ∧ s < 1000000000000000000) ∧ MulI A B (o.set (i + k) (s % 1000000000)) i (k + 1) (s / 1000000000) := by
  have ha := hA.get hi
  have hb := hB.get hk
  have ho := h.dig.getD (i + k)
  have hm := mul_bound (x := A.getD i 0) (y := B.getD k 0) (X := 999999999) (Y := 999999999) (by omega) (by omega) (by omega) (by omega)
  have hm0 := Int.mul_nonneg ha.1 hb.1
  have hc := h.car
  refine ⟨by omega, ⟨h.dig.set (by omega) (by omega), by rw [List.length_set, h.len], ?_, fun j hj => ?_, by omega⟩⟩
  · rw [valD_set _ (by rw [h.len]; omega), valD_take hk]
    have hv := h.val
    have e : s = 1000000000 * (s / 1000000000) + s % 1000000000 := by omega
    have e2 : Bp (i + k) = Bp i * Bp k := Bp_add i k
    have e3 : Bp (i + (k + 1)) = 1000000000 * Bp (i + k) := by rw [← Nat.add_assoc, Bp_succ]
    rw [e3, e2]
    rw [e2] at hv
    generalize s % 1000000000 = r at *
    generalize s / 1000000000 = q at *
    generalize o.getD (i + k) 0 = u at *
    generalize valD o = vo at *
    generalize valD (A.take i) * valD B = P at *
    generalize valD (B.take k) = vb at *
    subst e
    grind
  · rw [getD_set_ne (by omega), h.zer j hj]
theorem MulI.outer {A B o : List Int} {i : Nat} {c : Int} (h : MulI A B o i B.length c) (hi : i < A.length) : MulO A B (o.set (i + B.length) c) (i + 1) := by
  have hz := h.zer (i + B.length) (Nat.le_refl _)
  refine ⟨h.dig.set h.car.1 h.car.2, by rw [List.length_set, h.len], ?_, fun j hj => ?_⟩
  · rw [valD_set _ (by rw [h.len]; omega), hz, valD_take hi]
    have hv := h.val
    rw [List.take_length] at hv
    grind
  · rw [getD_set_ne (by omega), h.zer j (by omega)]
theorem spec54 (a b : Int) (ha : (digs a.natAbs).length < 10000) (hb : (digs b.natAbs).length < 10000) : Sp0 54 [W a, W b] (R.v (W (a * b))) := by
  have dA := digs_dig a.natAbs
  have dB := digs_dig b.natAbs
  have hN : ((digs a.natAbs).length + (digs b.natAbs).length + 1 : Int).toNat = (digs a.natAbs).length + (digs b.natAbs).length + 1 := by omega
  refine spec_of mixed (fun _ _ _ h => h) Tryz.func54 (by decide +kernel) rfl (rs := _) rfl (by rfl) rfl (by simp [Tryz.f54]) (by decide +kernel) ?_; simp only [argsG, Nat.zero_add]
  refine c_reg fun K hK => ?_
  simp (maxSteps := 2000000) only [vm, vr, q54, reduceIte, Nat.reduceEqDiff, Nat.reduceAdd, reduceCtorEq]
  refine need_by (by first | assumption | omega | (simp; done) | (simp; omega)) ?_
  refine need_by (by first | assumption | omega | (simp; done) | (simp; omega)) ?_
  refine need_by (by first | assumption | omega | (simp; done) | (simp; omega)) ?_
  (refine hK _ ?_; clear hK; clear K)
  refine c_reg fun K hK => ?_
  simp (maxSteps := 2000000) only [vm, vr, vt, vp, q54, iri, reduceIte, Nat.reduceEqDiff, Nat.reduceAdd, Nat.reduceLeDiff, Nat.reduceLT, reduceCtorEq]
  simp (disch := omega) only [wr64]
  refine need_by (by first | assumption | omega | (simp; done) | (simp; omega)) ?_
  (refine hK _ ?_; clear hK; clear K)
  refine c_assoc ?_
  refine c_reg fun K hK => ?_
  simp (maxSteps := 2000000) only [vm, vr]
  (refine hK _ ?_; clear hK; clear K)
  refine c_block ?_
  refine vcode_loop (fun x : Nat × List Int => [(2, L.own 2 0), (3, L.own 3 0), (4, L.own 4 0), (5, L.arr 18 0), (6, L.p (nn x.1))]) (fun x => [(Key.a 18, M.arr 0 3 1 (List.map nn x.2)), (Key.b 4, M.box 2), (Key.c 4 0, M.cell (L.p (V.i IntKind.i64 0))), (Key.c 4 1, M.cell L.nilS), (Key.b 3, M.box 2), (Key.c 3 0, M.cell (L.p (nn b.sign))), (Key.c 3 1, M.cell (L.p (V.sl (List.map nn (digs b.natAbs))))), (Key.b 2, M.box 2), (Key.c 2 0, M.cell (L.p (nn a.sign))), (Key.c 2 1, M.cell (L.p (V.sl (List.map nn (digs a.natAbs)))))]) (fun x => x.1 ≤ (digs a.natAbs).length ∧ MulO (digs a.natAbs) (digs b.natAbs) x.2 x.1) (fun x => (digs a.natAbs).length - x.1) (0, List.replicate ((digs a.natAbs).length + (digs b.natAbs).length + 1) 0) ⟨Nat.zero_le _, MulO.start _ _⟩ ?_ ?_
  · simp (maxSteps := 2000000) only [vm, hN, vmk, reduceIte, Nat.reduceEqDiff, Nat.reduceAdd, Nat.reduceLT, reduceCtorEq]
  · rintro ⟨i, o⟩ ⟨hi, hM⟩
    simp only at hi hM ⊢
    have hlen := hM.len
    rcases Nat.lt_or_ge i (digs a.natAbs).length with hil | hil
    · have k0 : decide ((i : Int) < ((digs a.natAbs).length : Int)) = true := by simp; omega
      refine c_assoc ?_
      refine c_reg fun K hK => ?_
      simp (maxSteps := 2000000) only [vm, vr, q54, k0, reduceIte, Nat.reduceEqDiff, Nat.reduceAdd, Nat.reduceLeDiff, reduceCtorEq]
      (refine hK _ ?_; clear hK; clear K)
      refine c_if _ rfl (fun hb1 => ?_) (fun hb1 => ?_) <;> (have hp1 := hb1; try simp only [] at hp1)
      refine c_skip ?_
      refine c_block ?_
      refine c_reg fun K hK => ?_
      simp (maxSteps := 2000000) only [vm, vr]
      (refine hK _ ?_; clear hK; clear K)
      refine c_assoc ?_
      refine c_reg fun K hK => ?_
      simp (maxSteps := 2000000) only [vm, vr]
      (refine hK _ ?_; clear hK; clear K)
      refine c_block ?_
      rotate_left
      cases hb1
      refine vcode_loop (fun x : Nat × Int × List Int => [(2, L.own 2 0), (3, L.own 3 0), (4, L.own 4 0), (5, L.arr 18 0), (6, L.p (nn i)), (7, L.p (nn x.2.1)), (8, L.p (nn x.1))]) (fun x => [(Key.a 18, M.arr 0 3 1 (List.map nn x.2.2)), (Key.b 4, M.box 2), (Key.c 4 0, M.cell (L.p (V.i IntKind.i64 0))), (Key.c 4 1, M.cell L.nilS), (Key.b 3, M.box 2), (Key.c 3 0, M.cell (L.p (nn b.sign))), (Key.c 3 1, M.cell (L.p (V.sl (List.map nn (digs b.natAbs))))), (Key.b 2, M.box 2), (Key.c 2 0, M.cell (L.p (nn a.sign))), (Key.c 2 1, M.cell (L.p (V.sl (List.map nn (digs a.natAbs)))))]) (fun x => x.1 ≤ (digs b.natAbs).length ∧ MulI (digs a.natAbs) (digs b.natAbs) x.2.2 i x.1 x.2.1) (fun x => (digs b.natAbs).length - x.1) (0, 0, o) ⟨Nat.zero_le _, hM.inner⟩ ?_ ?_
      · simp (maxSteps := 2000000) only [vm, vmk, reduceIte, Nat.reduceEqDiff, Nat.reduceAdd, Nat.reduceLT, reduceCtorEq]
      · rintro ⟨k, c, o'⟩ ⟨hk, hI⟩
        simp only at hk hI ⊢
        have hlen' := hI.len
        have hc := hI.car
        rcases Nat.lt_or_ge k (digs b.natAbs).length with hkl | hkl
        · have k1 : decide ((k : Int) < ((digs b.natAbs).length : Int)) = true := by simp; omega
          have hik : ((i : Int) + (k : Int)).toNat = i + k := by omega
          obtain ⟨⟨hs0, hs1⟩, hI'⟩ := hI.step dA dB hil hkl _ rfl
          have hda := dA.get hil
          have hdb := dB.get hkl
          have hdo := hI.dig.getD (i + k)
          have hm := mul_bound (x := (digs a.natAbs).getD i 0) (y := (digs b.natAbs).getD k 0) (X := 999999999) (Y := 999999999) (by omega) (by omega) (by omega) (by omega)
          obtain ⟨u, hu⟩ : ∃ u, u = (digs a.natAbs).getD i 0 := ⟨_, rfl⟩
          obtain ⟨v, hv⟩ : ∃ v, v = (digs b.natAbs).getD k 0 := ⟨_, rfl⟩
          obtain ⟨t, ht⟩ : ∃ t, t = o'.getD (i + k) 0 := ⟨_, rfl⟩
          have hu' := hu.symm
          have hv' := hv.symm
          have ht' := ht.symm
          simp only [hu', hv', ht'] at hs0 hs1 hI' hda hdb hdo hm
          obtain ⟨S, hS⟩ : ∃ S, S = t + u * v + c := ⟨_, rfl⟩
          have hS' := hS.symm
          rw [hS'] at hs0 hs1 hI'
          have e1 : S.tdiv 1000000000 = S / 1000000000 := Int.tdiv_eq_ediv_of_nonneg (by omega)
          have e2 : S.tmod 1000000000 = S % 1000000000 := Int.tmod_eq_emod_of_nonneg (by omega)
          refine c_assoc ?_
          refine c_reg fun K hK => ?_
          simp (maxSteps := 2000000) only [vm, vr, q54, k1, reduceIte, Nat.reduceEqDiff, Nat.reduceAdd, Nat.reduceLeDiff, reduceCtorEq]
          (refine hK _ ?_; clear hK; clear K)
          refine c_if _ rfl (fun hb2 => ?_) (fun hb2 => ?_) <;> (have hp2 := hb2; try simp only [] at hp2)
          refine c_skip ?_
          refine c_block ?_
          refine c_draw fun K hK => ?_
          simp (maxSteps := 2000000) only [vm, vr, q54, reduceIte, Nat.reduceEqDiff, Nat.reduceAdd, Nat.reduceLeDiff, reduceCtorEq]
          simp (disch := omega) only [wr64]
          simp (maxSteps := 2000000) only [hik]
          refine need_by (by first | assumption | omega | (simp; done) | (simp; omega)) ?_
          (refine want_map 0 (by first | assumption | omega | (simp; done) | (simp; omega)) ?_; simp (maxSteps := 2000000) only [vm, vr, ht', reduceIte, Nat.reduceLeDiff])
          (refine atI_map 0 (by first | assumption | omega | (simp; done) | (simp; omega)) (by first | assumption | omega | (simp; done) | (simp; omega)) ?_; simp (maxSteps := 2000000) only [vm, vr, q54, hu', reduceIte, Nat.reduceEqDiff, Nat.reduceLeDiff, reduceCtorEq])
          (refine atI_map 0 (by first | assumption | omega | (simp; done) | (simp; omega)) (by first | assumption | omega | (simp; done) | (simp; omega)) ?_; simp (maxSteps := 2000000) only [vm, vr, q54, hv'])
          (refine draw_ok (by decide +kernel) (hK _ ?_); clear hK; clear K)
          refine c_reg1 fun K hK => ?_
          simp (maxSteps := 2000000) only [vm, vr, q54, reduceIte, Nat.reduceEqDiff, reduceCtorEq]
          refine need_by (by first | assumption | omega | (simp; done) | (simp; omega)) ?_
          refine need_by (by first | assumption | omega | (simp; done) | (simp; omega)) ?_
          simp (disch := omega) only [wr64]
          simp (maxSteps := 2000000) only [hik, hS', e1, e2]
          refine need_by (by first | assumption | omega | (simp; done) | (simp; omega)) ?_
          simp (disch := omega) only [wr64]
          (refine want_map 0 (by first | assumption | omega | (simp; done) | (simp; omega)) ?_; simp (maxSteps := 2000000) only [vm, vr, vp, ht', Nat.reduceLeDiff])
          (refine hK _ ?_; clear hK; clear K)
          simp only [thenV_n, blockV_n]
          refine c_reg1 fun K hK => ?_
          simp (maxSteps := 2000000) only [vm, vr, reduceIte, Nat.reduceEqDiff]
          (simp (disch := omega) only [wr64]; try simp (maxSteps := 2000000) only [vm, vr, vt, vp, q54, k1, hik, hu', hv', ht', hS', e1, e2, map_set', iri, hb, hb1, hb2, Int.reduceBNe, Int.reduceBEq, Int.reduceLT, Int.reduceLE, Int.reduceGT, Int.reduceGE, decide_true, decide_false, bne_self_eq_false, beq_self_eq_true, reduceIte, Nat.reduceEqDiff, Nat.reduceAdd, Nat.reduceLeDiff, Nat.reduceMul, Nat.reduceLT, reduceCtorEq])
          (refine hK _ ?_; clear hK; clear K)
          simp only [thenV_n]
          rotate_left
          cases hb2
          refine ⟨(k + 1, S / 1000000000, o'.set (i + k) (S % 1000000000)), ?_, ⟨by simp only; omega, hI'⟩, by simp only; omega⟩
          (simp (maxSteps := 2000000) only [vm, vmk, reduceIte, Nat.reduceEqDiff, Nat.reduceAdd, Nat.reduceLT, reduceCtorEq]; try simp (disch := omega) only [wr64]; try omega)
          rfl
        · have k1 : decide ((k : Int) < ((digs b.natAbs).length : Int)) = false := by simp; omega
          have hkl' : k = (digs b.natAbs).length := by omega
          subst hkl'
          have hz := hI.zer (i + (digs b.natAbs).length) (Nat.le_refl _)
          have hI' := hI.outer hil
          have hik : ((i : Int) + ((digs b.natAbs).length : Int)).toNat = i + (digs b.natAbs).length := by omega
          refine c_assoc ?_
          refine c_reg fun K hK => ?_
          simp (maxSteps := 2000000) only [vm, vr, q54, k1, reduceIte, Nat.reduceEqDiff, Nat.reduceAdd, Nat.reduceLeDiff, reduceCtorEq]
          (refine hK _ ?_; clear hK; clear K)
          refine c_if _ rfl (fun hb2 => ?_) (fun hb2 => ?_) <;> (have hp2 := hb2; try simp only [] at hp2)
          cases hb2
          refine c_exit ?_
          simp only [thenV_n, thenV_e, blockV_e, reduceIte, Nat.reduceEqDiff]
          refine c_draw1 fun K hK => ?_
          simp (maxSteps := 2000000) only [vm, vr, q54, reduceIte, Nat.reduceEqDiff, Nat.reduceAdd, Nat.reduceLeDiff, reduceCtorEq]
          simp (disch := omega) only [wr64]
          simp (maxSteps := 2000000) only [hik]
          refine need_by (by first | assumption | omega | (simp; done) | (simp; omega)) ?_
          (refine want_map 0 (by first | assumption | omega | (simp; done) | (simp; omega)) ?_; simp (maxSteps := 2000000) only [vm, vr, hz, Int.zero_add, reduceIte, Nat.reduceLeDiff, reduceCtorEq])
          refine need_by (by first | assumption | omega | (simp; done) | (simp; omega)) ?_
          simp (disch := omega) only [wr64]
          (refine want_map 0 (by first | assumption | omega | (simp; done) | (simp; omega)) ?_; simp (maxSteps := 2000000) only [vm, vr, vp, hz, Nat.reduceLeDiff])
          (refine draw_ok (by decide +kernel) (hK _ ?_); clear hK; clear K)
          simp only [thenV_n, blockV_n]
          refine c_reg1 fun K hK => ?_
          simp (maxSteps := 2000000) only [vm, vr, reduceIte, Nat.reduceEqDiff]
          (simp (disch := omega) only [wr64]; try simp (maxSteps := 2000000) only [vm, vr, vt, vp, q54, k1, hik, hz, Int.zero_add, map_set', iri, hb, hb1, hb2, Int.reduceBNe, Int.reduceBEq, Int.reduceLT, Int.reduceLE, Int.reduceGT, Int.reduceGE, decide_true, decide_false, bne_self_eq_false, beq_self_eq_true, reduceIte, Nat.reduceEqDiff, Nat.reduceAdd, Nat.reduceLeDiff, Nat.reduceMul, Nat.reduceLT, reduceCtorEq])
          (refine hK _ ?_; clear hK; clear K)
          simp only [thenV_n]
          refine ⟨(i + 1, o'.set (i + (digs b.natAbs).length) c), ?_, ⟨by simp only; omega, hI'⟩, by simp only; omega⟩
          (simp (maxSteps := 2000000) only [vm, vmk, reduceIte, Nat.reduceEqDiff, Nat.reduceAdd, Nat.reduceLT, reduceCtorEq]; try simp (disch := omega) only [wr64]; try omega)
          rfl
    · have k0 : decide ((i : Int) < ((digs a.natAbs).length : Int)) = false := by simp; omega
      refine c_assoc ?_
      refine c_reg fun K hK => ?_
      simp (maxSteps := 2000000) only [vm, vr, q54, k0, reduceIte, Nat.reduceEqDiff, Nat.reduceAdd, Nat.reduceLeDiff, reduceCtorEq]
      (refine hK _ ?_; clear hK; clear K)
      refine c_if _ rfl (fun hb1 => ?_) (fun hb1 => ?_) <;> (have hp1 := hb1; try simp only [] at hp1)
      cases hb1
      refine c_exit ?_
      simp only [thenV_n, thenV_e, blockV_e, reduceIte]
      refine c_reg fun K hK => ?_
      simp (maxSteps := 2000000) only [vm, vr, q54, reduceIte, Nat.reduceEqDiff, Nat.reduceLeDiff, reduceCtorEq]
      (apply s_call (spec92 _ _ ?s13701x1); (case hf => rfl); (case hq => (simp (maxSteps := 2000000) only [vm, vr, reduceIte, Nat.reduceEqDiff, reduceCtorEq]; rfl)); (case hvs => rfl); (case s13701x1 => first | assumption | omega | (simp; done) | (simp; omega)))
      simp (maxSteps := 2000000) only [vm, vr, q54, reduceIte, Nat.reduceEqDiff, Nat.reduceAdd, Nat.reduceLeDiff, reduceCtorEq]
      (refine hK _ ?_; clear hK; clear K)
      refine c_ret1 ?_
      simp (maxSteps := 2000000) only [vm, q54, reduceIte, Nat.reduceEqDiff, Nat.reduceAdd, Nat.reduceLeDiff, reduceCtorEq]
      refine congrArg R.v (wide_of hM.dig ?_ ?_).symm
      · rw [hM.val, List.take_of_length_le (by omega), digs_val, digs_val, Int.natAbs_mul]; push_cast; rfl
      · intro h; rw [Int.sign_mul]
        have := sign_cases a
        have := sign_cases b
        have hm := mul_bound (x := a.sign) (y := b.sign) (X := 1) (Y := 1) (by omega) (by omega) (by omega) (by omega)
        rw [wr64 (by omega) (by omega)]
theorem cmpN_le {m n : Nat} : cmpN m n ≤ 0 ↔ m ≤ n := by
  unfold cmpN; split
  · simp; omega
  · split
    · simp; omega
    · simp; omega
theorem sub_digs {m n : Nat} (h : n ≤ m) : trimV (subL (digs m) (digs n) 0) = digs (m - n) := by
  obtain ⟨h1, h2⟩ := subL_val (a := digs m) (b := digs n) (w := 0) (digs_dig m) (digs_dig n) (by omega) (by rw [digs_val, digs_val]; omega)
  rw [trim_digs h1, h2, digs_val, digs_val]; congr 1; omega
theorem cons_digs {d : Int} {n : Nat} (h0 : 0 ≤ d) (h1 : d < 1000000000) : trimV (d :: digs n) = digs (d + 1000000000 * n).toNat := by
  rw [trim_digs (Dig.cons h0 h1 (digs_dig n))]; simp only [valD, digs_val]
/-- The quotient and the rest, digit by digit. -/
structure FlO (A q : List Int) (b : Int) (k : Nat) : Prop where
  dig : Dig q
  len : q.length = A.length
  zer : ∀ j, j < k → q.getD j 0 = 0
  val : valD (q.drop k) = valD (A.drop k) / b
def restN (A : List Int) (b : Int) (k : Nat) : Nat := (valD (A.drop k) % b).toNat
theorem FlO.start (A : List Int) (b : Int) : FlO A (List.replicate A.length 0) b A.length :=
  ⟨Dig.rep _, by simp, fun j _ => getD_rep _ j, by rw [List.drop_length, List.drop_of_length_le (by simp)]; simp [valD]⟩
theorem rest_top (A : List Int) (b : Int) : restN A b A.length = 0 := by
  unfold restN; rw [List.drop_length]; simp [valD]
theorem rest_lt {A : List Int} {b : Int} (h : 0 < b) (k : Nat) : (restN A b k : Int) < b := by
  unfold restN
  have := Int.emod_nonneg (valD (A.drop k)) (show b ≠ 0 by omega)
  have := Int.emod_lt_of_pos (valD (A.drop k)) h
  omega
theorem drop_pred' {A : List Int} {k : Nat} (hk : 0 < k) (hl : k ≤ A.length) : valD (A.drop (k - 1)) = A.getD (k - 1) 0 + 1000000000 * valD (A.drop k) := by
  rw [dropS (0 : Int) (show k - 1 < A.length by omega), show k - 1 + 1 = k by omega]; rfl
theorem FlO.step {A q : List Int} {b : Int} {k : Nat} (h : FlO A q b k) (hA : Dig A) (hb : 0 < b) (hk : 0 < k) (hl : k ≤ A.length) (L : Nat) (hL : L = (A.getD (k - 1) 0 + 1000000000 * restN A b k).toNat) (m : Int) (hm : m = (L : Int) / b) : (0 ≤ m ∧ m < 1000000000) ∧ (b * m).natAbs ≤ L ∧ L - (b * m).natAbs = restN A b (k - 1) ∧ FlO A (q.set (k - 1) m) b (k - 1) := by
  have hd := hA.getD (k - 1)
  have hp := drop_pred' hk hl
  have hv := valD_nonneg (hA.drop k)
  have r0 := Int.emod_nonneg (valD (A.drop k)) (show b ≠ 0 by omega)
  have r1 := Int.emod_lt_of_pos (valD (A.drop k)) hb
  have hq := h.val
  have hdm := Int.mul_ediv_add_emod (valD (A.drop k)) b
  have hR : (restN A b k : Int) = valD (A.drop k) % b := by unfold restN; omega
  have hLI : (L : Int) = A.getD (k - 1) 0 + 1000000000 * (valD (A.drop k) % b) := by rw [hL, ← hR]; omega
  have l0 := Int.emod_nonneg (L : Int) (show b ≠ 0 by omega)
  have l1 := Int.emod_lt_of_pos (L : Int) hb
  have ldm := Int.mul_ediv_add_emod (L : Int) b
  rw [← hm] at ldm
  have m0 : 0 ≤ m := by rw [hm]; exact Int.ediv_nonneg (by omega) (by omega)
  have m1 : m < 1000000000 := by
    rw [hm]; refine Int.ediv_lt_of_lt_mul hb ?_
    have : (valD (A.drop k) % b + 1) * 1000000000 ≤ b * 1000000000 := Int.mul_le_mul_of_nonneg_right (by omega) (by omega)
    omega
  have bm0 : 0 ≤ b * m := Int.mul_nonneg (by omega) m0
  have key : valD (A.drop (k - 1)) = (L : Int) % b + b * (m + 1000000000 * valD (q.drop k)) := by
    rw [hp, hq, Int.mul_add]
    have : b * (1000000000 * (valD (A.drop k) / b)) = 1000000000 * (b * (valD (A.drop k) / b)) := by grind
    rw [this]; omega
  have hun := (Int.ediv_emod_unique (a := valD (A.drop (k - 1))) (b := b) (r := (L : Int) % b) (q := m + 1000000000 * valD (q.drop k)) hb).2 ⟨key.symm, l0, l1⟩
  refine ⟨⟨m0, m1⟩, by omega, ?_, ⟨h.dig.set m0 m1, by rw [List.length_set, h.len], fun j hj => by rw [getD_set_ne (by omega), h.zer j (by omega)], ?_⟩⟩
  · unfold restN; rw [hun.2]; omega
  · rw [hun.1, drop_pred' hk (by rw [List.length_set, h.len]; exact hl)]
    have e1 : (q.set (k - 1) m).getD (k - 1) 0 = m := by
      simp only [List.getD, List.getElem?_set_self (show k - 1 < q.length by rw [h.len]; omega), Option.getD_some]
    have e2 : (q.set (k - 1) m).drop k = q.drop k := List.drop_set_of_lt (by omega)
    rw [e1, e2]
theorem neg_floor {n b : Int} (h0 : 0 < b) : (-n) / b = if n % b = 0 then -(n / b) else -(n / b) - 1 := by
  have h1 := Int.mul_ediv_add_emod n b
  have h2 := Int.emod_nonneg n (show b ≠ 0 by omega)
  have h3 := Int.emod_lt_of_pos n h0
  split
  · rename_i h
    exact ((Int.ediv_emod_unique (a := -n) (b := b) (r := 0) (q := -(n / b)) h0).2 ⟨by rw [Int.mul_neg]; omega, by omega, h0⟩).1
  · rename_i h
    exact ((Int.ediv_emod_unique (a := -n) (b := b) (r := b - n % b) (q := -(n / b) - 1) h0).2 ⟨by rw [Int.mul_sub, Int.mul_neg]; omega, by omega, by omega⟩).1
theorem len_mul (m n : Nat) : (digs (m * n)).length ≤ (digs m).length + (digs n).length := by
  have h1 := digs_lt m
  have h2 := digs_lt n
  unfold Bp at h1 h2
  refine digs_len_le ?_
  have h1' : m < 1000000000 ^ (digs m).length := Int.ofNat_lt.1 (by rw [Int.natCast_pow]; exact h1)
  have h2' : n < 1000000000 ^ (digs n).length := Int.ofNat_lt.1 (by rw [Int.natCast_pow]; exact h2)
  rw [Nat.pow_add]
  exact Nat.mul_lt_mul'' h1' h2'
theorem floor_sign {a b : Int} (h0 : 0 < b) : (0 ≤ a ∨ (a.natAbs : Int) % b = 0 → a / b = a.sign * ((a.natAbs : Int) / b)) ∧ (a < 0 → (a.natAbs : Int) % b ≠ 0 → a / b = a.sign * ((a.natAbs : Int) / b) - 1) := by
  rcases sign_cases a with ⟨h1, h2⟩ | ⟨h1, h2⟩ | ⟨h1, h2⟩
  · subst h2; simp
  · rw [h1, show (a.natAbs : Int) = a by omega]
    exact ⟨fun _ => by omega, fun h => by omega⟩
  · have hn := neg_floor (n := -a) h0
    rw [Int.neg_neg] at hn
    rw [h1, show (a.natAbs : Int) = -a by omega, hn]
    exact ⟨fun h => by rw [if_pos (by omega)]; omega, fun _ h => by rw [if_neg h]; omega⟩
theorem floor_z {a b z : Int} (h0 : 0 < b) (hz : z = a.sign * ((a.natAbs : Int) / b)) : z.natAbs = (a.natAbs : Int) / b ∧ (z ≠ 0 → a.sign = z.sign) := by
  have hq : 0 ≤ (a.natAbs : Int) / b := Int.ediv_nonneg (by omega) (by omega)
  rcases sign_cases a with ⟨h1, h2⟩ | ⟨h1, h2⟩ | ⟨h1, h2⟩
  · subst h2; simp at hz; subst hz; simp
  · rw [h1] at hz ⊢
    have := sign_cases z
    exact ⟨by omega, fun _ => by omega⟩
  · rw [h1] at hz ⊢
    have := sign_cases z
    exact ⟨by omega, fun _ => by omega⟩
theorem spec96 (a b : Int) (h0 : 0 < b) (ha : (digs a.natAbs).length < 1000) (hb : (digs b.natAbs).length < 1000) : Sp0 96 [W a, W b] (R.v (W (a / b))) := by
  have dA := digs_dig a.natAbs
  have hsa := sign_cases a
  have hs92 : Sp0 92 [nn 1, .sl ((digs b.natAbs).map nn)] (R.v (W b)) := by
    have := spec92 1 (digs b.natAbs) (by omega)
    rwa [wide_of (z := b) (digs_dig _) (digs_val _) (fun _ => (Int.sign_eq_one_of_pos h0).symm)] at this
  refine spec_of mixed (fun _ _ _ h => h) Tryz.func96 (by decide +kernel) rfl (rs := _) rfl (by rfl) rfl (by simp [Tryz.f96]) (by decide +kernel) ?_; simp only [argsG, Nat.zero_add]
  refine c_reg fun K hK => ?_
  simp (maxSteps := 2000000) only [vm, vr, q96, reduceIte, Nat.reduceEqDiff, Nat.reduceAdd, reduceCtorEq]
  refine need_by (by first | assumption | omega | (simp; done) | (simp; omega)) ?_
  refine need_by (by first | assumption | omega | (simp; done) | (simp; omega)) ?_
  refine need_by (by first | assumption | omega | (simp; done) | (simp; omega)) ?_
  (refine hK _ ?_; clear hK; clear K)
  refine c_assoc ?_
  refine c_reg fun K hK => ?_
  simp (maxSteps := 2000000) only [vm, vr, q96, reduceIte, Nat.reduceEqDiff, Nat.reduceLeDiff, reduceCtorEq]
  (refine hK _ ?_; clear hK; clear K)
  refine c_if _ rfl (fun hb1 => ?_) (fun hb1 => ?_) <;> (have hp1 := hb1; try simp only [beq_iff_eq, beq_eq_false_iff_ne] at hp1)
  refine c_assoc ?_
  refine c_reg fun K hK => ?_
  simp (maxSteps := 2000000) only [vm, vr, vp, q96, hb1, reduceIte, Nat.reduceEqDiff, Nat.reduceAdd, Nat.reduceLeDiff, reduceCtorEq]
  (refine hK _ ?_; clear hK; clear K)
  refine c_ret ?_
  simp (maxSteps := 2000000) only [vm, vp, q96, reduceIte, Nat.reduceEqDiff, Nat.reduceAdd, Nat.reduceLeDiff, reduceCtorEq]
  rotate_left
  refine c_skip ?_
  refine c_reg fun K hK => ?_
  simp (maxSteps := 2000000) only [vm, vr, vt, vp, q96, iri, hb1, reduceIte, Nat.reduceEqDiff, Nat.reduceAdd, Nat.reduceLeDiff, Nat.reduceMul, Nat.reduceLT, reduceCtorEq]
  refine need_by (by first | assumption | omega | (simp; done) | (simp; omega)) ?_
  refine need_by (by first | assumption | omega | (simp; done) | (simp; omega)) ?_
  (refine hK _ ?_; clear hK; clear K)
  refine c_assoc ?_
  refine c_reg fun K hK => ?_
  simp (maxSteps := 2000000) only [vm, vr, q96, reduceIte, Nat.reduceEqDiff, Nat.reduceAdd, Nat.reduceLeDiff, reduceCtorEq]
  (simp (disch := omega) only [wr64]; try simp (maxSteps := 2000000) only [vm, vr, vt, vp, q96, @Option.map_none, @Option.map_some, iri, hb, hb1, Int.reduceBNe, Int.reduceBEq, Int.reduceLT, Int.reduceLE, Int.reduceGT, Int.reduceGE, decide_true, decide_false, bne_self_eq_false, beq_self_eq_true, reduceIte, Nat.reduceEqDiff, Nat.reduceAdd, Nat.reduceLeDiff, Nat.reduceMul, Nat.reduceLT, reduceCtorEq])
  (refine hK _ ?_; clear hK; clear K)
  refine c_block ?_
  rotate_left
  · rw [show a = 0 by omega, Int.zero_ediv, W_zero]
  refine vcode_loop (fun x : Nat × List Int => [(2, L.own 2 0), (3, L.own 3 0), (4, L.own 4 0), (5, L.arr 19 0), (6, if x.1 = (digs a.natAbs).length then L.arr 20 0 else L.p (.sl ((digs (restN (digs a.natAbs) b x.1)).map nn))), (7, L.p (nn ((x.1 : Int) - 1)))]) (fun x => (if x.1 = (digs a.natAbs).length then [(Key.a 20, M.arr 0 3 1 [])] else []) ++ [(Key.a 19, M.arr 0 3 1 (List.map nn x.2)), (Key.b 4, M.box 2), (Key.c 4 0, M.cell (L.p (V.i IntKind.i64 0))), (Key.c 4 1, M.cell L.nilS), (Key.b 3, M.box 2), (Key.c 3 0, M.cell (L.p (nn b.sign))), (Key.c 3 1, M.cell (L.p (V.sl (List.map nn (digs b.natAbs))))), (Key.b 2, M.box 2), (Key.c 2 0, M.cell (L.p (nn a.sign))), (Key.c 2 1, M.cell (L.p (V.sl (List.map nn (digs a.natAbs)))))]) (fun x => x.1 ≤ (digs a.natAbs).length ∧ FlO (digs a.natAbs) x.2 b x.1) (fun x => x.1) ((digs a.natAbs).length, List.replicate (digs a.natAbs).length 0) ⟨Nat.le_refl _, FlO.start _ _⟩ ?_ ?_
  · simp (maxSteps := 2000000) only [vm, vr, vmk, reduceIte, Nat.reduceEqDiff, Nat.reduceAdd, Nat.reduceLT, reduceCtorEq]
  · rintro ⟨k, q⟩ ⟨hk, hM⟩
    simp only at hk hM ⊢
    have hlen := hM.len
    rcases Nat.eq_zero_or_pos k with rfl | hp
    · have k0 : decide ((0 : Int) - 1 ≥ 0) = false := by simp
      have ka : (0 = (digs a.natAbs).length) = False := by
        rw [eq_iff_iff, iff_false]; intro h
        have := digs_nil.1 (List.length_eq_zero_iff.1 h.symm)
        omega
      obtain ⟨z, hz⟩ : ∃ z, z = a.sign * ((a.natAbs : Int) / b) := ⟨_, rfl⟩
      have hfz := floor_z h0 hz
      have hfs := floor_sign (a := a) h0
      rw [← hz] at hfs
      have hval := hM.val
      rw [List.drop_zero, List.drop_zero, digs_val] at hval
      have hW := wide_of (z := z) hM.dig (by omega) hfz.2
      have hzl : (digs z.natAbs).length < 100000 := by
        have := digs_len_mono (m := z.natAbs) (n := a.natAbs) (by
          have := Int.ediv_le_self (a := (a.natAbs : Int)) b (by omega)
          omega)
        omega
      have h1l : (digs (1 : Int).natAbs).length < 100000 := by have := digs_len_le (n := 1) (k := 1) (by decide); show (digs 1).length < _; omega
      have hs98 := spec98 z 1 hzl h1l
      rw [← hW] at hs98
      have hrest : restN (digs a.natAbs) b 0 = ((a.natAbs : Int) % b).toNat := by unfold restN; rw [List.drop_zero, digs_val]
      have hm0 := Int.emod_nonneg (a.natAbs : Int) (show b ≠ 0 by omega)
      have hlen0 : 0 < (digs (restN (digs a.natAbs) b 0)).length ↔ (a.natAbs : Int) % b ≠ 0 := by
        rw [List.length_pos_iff, ne_eq, digs_nil, hrest]; omega
      refine c_assoc ?_
      refine c_reg fun K hK => ?_
      simp (maxSteps := 2000000) only [vm, vr, vp, k0, ka, reduceIte, Nat.reduceEqDiff]
      (refine hK _ ?_; clear hK; clear K)
      refine c_if _ rfl (fun hb2 => ?_) (fun hb2 => ?_) <;> (have hp2 := hb2; try simp only [] at hp2)
      cases hb2
      refine c_exit ?_
      simp only [thenV_n, thenV_e, blockV_e, reduceIte]
      refine c_reg fun K hK => ?_
      simp (maxSteps := 2000000) only [vm, vr, q96, reduceIte, Nat.reduceEqDiff, Nat.reduceLeDiff, reduceCtorEq]
      (apply s_call (spec92 _ _ ?s28202x1); (case hf => rfl); (case hq => (simp (maxSteps := 2000000) only [vm, vr, reduceIte, Nat.reduceEqDiff, reduceCtorEq]; rfl)); (case hvs => rfl); (case s28202x1 => first | assumption | omega | (simp; done) | (simp; omega)))
      simp (maxSteps := 2000000) only [vm, vr, q96, reduceIte, Nat.reduceEqDiff, Nat.reduceAdd, Nat.reduceLeDiff, reduceCtorEq]
      refine need_by (by first | assumption | omega | (simp; done) | (simp; omega)) ?_
      (refine hK _ ?_; clear hK; clear K)
      refine c_assoc ?_
      refine c_reg fun K hK => ?_
      simp (maxSteps := 2000000) only [vm, vr, q96, reduceIte, Nat.reduceEqDiff, Nat.reduceLeDiff, reduceCtorEq]
      refine guard_by (fun hb3 => ?_) (fun hb3 => ?_) <;> (have hp3 := hb3; try simp only [decide_eq_true_eq, decide_eq_false_iff_not, Int.not_lt] at hp3)
      simp (maxSteps := 2000000) only [vm, hb3]
      (refine hK _ ?_; clear hK; clear K)
      refine c_if _ rfl (fun hb4 => ?_) (fun hb4 => ?_) <;> (have hp4 := hb4; try simp only [decide_eq_true_eq, decide_eq_false_iff_not, Int.not_lt] at hp4)
      refine c_draw fun K hK => ?_
      simp (maxSteps := 2000000) only [vm, vr, q96, hb4, reduceIte, Nat.reduceEqDiff, Nat.reduceAdd, Nat.reduceLeDiff, reduceCtorEq]
      (apply d_call (spec51 _ ?s28203x1 ?s28203x2); (case hf => rfl); (case hq => (simp (maxSteps := 2000000) only [vm]; rfl)); (case hvs => rfl); (case s28203x1 | s28203x2 => first | assumption | omega | (simp; done) | (simp; omega)))
      (apply d_call (hs98); (case hf => rfl); (case hq => (simp (maxSteps := 2000000) only [vm, vr, reduceIte, Nat.reduceEqDiff]; rfl)); (case hvs => rfl))
      simp (maxSteps := 2000000) only [vm, vr, q96, reduceIte, Nat.reduceEqDiff, Nat.reduceAdd, Nat.reduceLeDiff, reduceCtorEq]
      (refine draw_ok (by decide +kernel) (hK _ ?_); clear hK; clear K)
      refine c_reg fun K hK => ?_
      simp (maxSteps := 2000000) only [vm, vr, q96, reduceIte, Nat.reduceEqDiff, Nat.reduceAdd, Nat.reduceLeDiff, reduceCtorEq]
      (refine hK _ ?_; clear hK; clear K)
      refine c_ret1 ?_
      simp (maxSteps := 2000000) only [vm, q96, reduceIte, Nat.reduceEqDiff, Nat.reduceAdd, Nat.reduceLeDiff, reduceCtorEq]
      rotate_left
      refine c_skip ?_
      refine c_reg fun K hK => ?_
      simp (maxSteps := 2000000) only [vm, vr, q96, hb4, reduceIte, Nat.reduceEqDiff, Nat.reduceAdd, Nat.reduceLeDiff, reduceCtorEq]
      (refine hK _ ?_; clear hK; clear K)
      refine c_ret1 ?_
      simp (maxSteps := 2000000) only [vm, q96, reduceIte, Nat.reduceEqDiff, Nat.reduceAdd, Nat.reduceLeDiff, reduceCtorEq]
      rotate_left
      simp (maxSteps := 2000000) only [vm, hb3]
      (refine hK _ ?_; clear hK; clear K)
      refine c_if _ rfl (fun hb5 => ?_) (fun hb5 => ?_) <;> (have hp5 := hb5; try simp only [] at hp5)
      cases hb5
      refine c_skip ?_
      refine c_reg fun K hK => ?_
      simp (maxSteps := 2000000) only [vm, vr, q96, reduceIte, Nat.reduceEqDiff, Nat.reduceAdd, Nat.reduceLeDiff, reduceCtorEq]
      (refine hK _ ?_; clear hK; clear K)
      refine c_ret1 ?_
      simp (maxSteps := 2000000) only [vm, q96, reduceIte, Nat.reduceEqDiff, Nat.reduceAdd, Nat.reduceLeDiff, reduceCtorEq]
      rotate_left
      all_goals first | (rw [hW, hfs.1 (by omega)]) | (rw [hfs.2 (by omega) (by omega)])
    · have k0 : decide ((k : Int) - 1 ≥ 0) = true := by simp; omega
      have hck := cons_digs (d := (digs a.natAbs).getD (k - 1) 0) (n := restN (digs a.natAbs) b k) (dA.getD (k - 1)).1 (dA.getD (k - 1)).2
      have kk : ((k : Int) - 1).toNat = k - 1 := by omega
      have hstep := hM.step dA h0 hp hk
      have hrl := rest_lt (A := digs a.natAbs) h0 k
      have hdk := dA.getD (k - 1)
      have hR0 := rest_top (digs a.natAbs) b
      have hrlen : (digs (restN (digs a.natAbs) b k)).length ≤ (digs b.natAbs).length := digs_len_mono (by omega)
      have hs115' := spec115 ((digs a.natAbs).getD (k - 1) 0 :: digs (restN (digs a.natAbs) b k)) (by simp; omega)
      rw [hck, List.map_cons] at hs115'
      obtain ⟨d, hd⟩ : ∃ d, d = (digs a.natAbs).getD (k - 1) 0 := ⟨_, rfl⟩
      have hd' := hd.symm
      obtain ⟨F, hF⟩ : ∃ F, F = (d + 1000000000 * (restN (digs a.natAbs) b k : Int)).toNat := ⟨_, rfl⟩
      rw [hd'] at hs115' hstep hdk
      rw [← hF] at hs115'
      obtain ⟨Q, hQ⟩ : ∃ Q, Q = (F : Int) / b := ⟨_, rfl⟩
      obtain ⟨⟨hQ0, hQ1⟩, hbQ, hsub, hN⟩ := hstep F hF Q hQ
      clear hstep
      have hFl : (digs F).length ≤ (digs b.natAbs).length + 1 := by
        have h1 := digs_len_mono (m := F) (n := b.natAbs * 1000000000) (by omega)
        have h2 := len_mul b.natAbs 1000000000
        have h3 := digs_len_le (n := 1000000000) (k := 2) (by decide)
        have h4 : (digs 1000000000).length = 2 := by
          have := digs_pos (n := 1000000000) (by decide)
          rw [this, show 1000000000 / 1000000000 = 1 from rfl, digs_pos (n := 1) (by decide), show 1 / 1000000000 = 0 from rfl, digs_zero]; rfl
        rcases Nat.lt_or_ge F b.natAbs with h5 | h5
        · have := digs_len_mono (m := F) (n := b.natAbs) (by omega); omega
        · have h6 : F < 1000000000 ^ ((digs b.natAbs).length + 1) := by
            have h7 : b.natAbs < 1000000000 ^ (digs b.natAbs).length := Int.ofNat_lt.1 (by rw [Int.natCast_pow]; exact digs_lt b.natAbs)
            rw [Nat.pow_succ]; omega
          exact digs_len_le h6
      have hml : ∀ m : Int, 0 ≤ m ∧ m < 1000000000 → (digs m.natAbs).length ≤ 1 ∧ (digs (b * m).natAbs).length ≤ (digs b.natAbs).length + 1 := fun m hm => by
        have h1 : (digs m.natAbs).length ≤ 1 := digs_len_le (by omega)
        have h2 := len_mul b.natAbs m.natAbs
        rw [Int.natAbs_mul]; omega
      have hcm : ∀ m : Int, 0 ≤ m → (cmpN (b * m).natAbs F ≤ 0 ↔ m ≤ Q) := fun m hm => by
        have h1 := Int.le_ediv_iff_mul_le (a := m) (b := (F : Int)) h0
        rw [← hQ, Int.mul_comm] at h1
        have h2 := Int.mul_nonneg (show 0 ≤ b by omega) hm
        rw [cmpN_le, h1]; omega
      have hs118 := spec118 (digs F) (digs (b * Q).natAbs) (digs_dig _) (digs_dig _) (by omega) (by have := hml Q ⟨hQ0, hQ1⟩; omega)
      rw [sub_digs hbQ, hsub] at hs118
      rcases Nat.lt_or_ge k (digs a.natAbs).length with hkl | hkl
      · have ka : (k = (digs a.natAbs).length) = False := by simp; omega
        have hs115 := hs115'
        refine c_assoc ?_
        refine c_reg fun K hK => ?_
        simp (maxSteps := 2000000) only [vm, vr, k0, ka, reduceIte, Nat.reduceEqDiff]
        (refine hK _ ?_; clear hK; clear K)
        refine c_if _ rfl (fun hb2 => ?_) (fun hb2 => ?_) <;> (have hp2 := hb2; try simp only [] at hp2)
        refine c_skip ?_
        refine c_block ?_
        refine c_reg fun K hK => ?_
        simp (maxSteps := 2000000) only [vm, vr, vp, q96, reduceIte, Nat.reduceEqDiff, Nat.reduceAdd, Nat.reduceLeDiff, Nat.reduceMul, reduceCtorEq]
        (refine atI_map 0 (by first | assumption | omega | (simp; done) | (simp; omega)) (by first | assumption | omega | (simp; done) | (simp; omega)) ?_; simp (maxSteps := 2000000) only [vm, vr, q96, kk, hd', reduceIte, Nat.reduceEqDiff, reduceCtorEq])
        refine need_by (by first | assumption | omega | (simp; done) | (simp; omega)) ?_
        refine need_by (by first | assumption | omega | (simp; done) | (simp; omega)) ?_
        (apply s_call (hs115); (case hf => rfl); (case hq => (simp (maxSteps := 2000000) only [vm, reduceIte, Nat.reduceEqDiff, reduceCtorEq]; rfl)); (case hvs => rfl))
        simp (maxSteps := 2000000) only [vm, vr, reduceIte, Nat.reduceEqDiff]
        (refine hK _ ?_; clear hK; clear K)
        refine c_reg fun K hK => ?_
        simp (maxSteps := 2000000) only [vm, vr]
        (refine hK _ ?_; clear hK; clear K)
        refine c_block ?_
        rotate_left
        cases hb2
        refine vcode_loop (fun x : Int × Int => [(2, L.own 2 0), (3, L.own 3 0), (4, L.own 4 0), (5, L.arr 19 0), (6, L.p (V.sl (List.map nn (digs F)))), (7, L.p (nn ((k : Int) - 1))), (8, L.p (nn x.1)), (9, L.p (nn x.2))]) (fun _ => [(Key.a 19, M.arr 0 3 1 (List.map nn q)), (Key.b 4, M.box 2), (Key.c 4 0, M.cell (L.p (V.i IntKind.i64 0))), (Key.c 4 1, M.cell L.nilS), (Key.b 3, M.box 2), (Key.c 3 0, M.cell (L.p (nn b.sign))), (Key.c 3 1, M.cell (L.p (V.sl (List.map nn (digs b.natAbs))))), (Key.b 2, M.box 2), (Key.c 2 0, M.cell (L.p (nn a.sign))), (Key.c 2 1, M.cell (L.p (V.sl (List.map nn (digs a.natAbs)))))]) (fun x => 0 ≤ x.1 ∧ x.1 ≤ Q ∧ Q ≤ x.2 ∧ x.2 ≤ 999999999) (fun x => (x.2 - x.1).toNat) (0, 999999999) ⟨by simp, hQ0, by simp only; omega, by simp⟩ ?_ ?_
        · simp (maxSteps := 2000000) only [vm, vmk, reduceIte, Nat.reduceEqDiff, Nat.reduceAdd, Nat.reduceLT, reduceCtorEq]
        · rintro ⟨lo, hi⟩ ⟨h1, h2, h3, h4⟩
          simp only at h1 h2 h3 h4 ⊢
          rcases Int.lt_or_le lo hi with hlt | hge
          · have k1 : decide (lo < hi) = true := by simp; omega
            obtain ⟨m, hm⟩ : ∃ m, m = (lo + hi + 1) / 2 := ⟨_, rfl⟩
            have e1 : (lo + hi + 1).tdiv 2 = m := by rw [hm]; exact Int.tdiv_eq_ediv_of_nonneg (by omega)
            have hmm := hml m (by omega)
            have hcc := hcm m (by omega)
            refine c_assoc ?_
            refine c_reg fun K hK => ?_
            simp (maxSteps := 2000000) only [vm, vr, k1, reduceIte, Nat.reduceEqDiff]
            (refine hK _ ?_; clear hK; clear K)
            refine c_if _ rfl (fun hb3 => ?_) (fun hb3 => ?_) <;> (have hp3 := hb3; try simp only [] at hp3)
            refine c_skip ?_
            refine c_block1 ?_
            refine c_reg fun K hK => ?_
            simp (maxSteps := 2000000) only [vm, vr, reduceIte, Nat.reduceEqDiff]
            refine need_by (by first | assumption | omega | (simp; done) | (simp; omega)) ?_
            (simp (disch := omega) only [wr64]; try simp (maxSteps := 2000000) only [e1])
            (refine hK _ ?_; clear hK; clear K)
            refine c_reg fun K hK => ?_
            simp (maxSteps := 2000000) only [vm, vr, q96, reduceIte, Nat.reduceEqDiff, Nat.reduceAdd, Nat.reduceLeDiff, reduceCtorEq]
            (apply s_call (hs92); (case hf => rfl); (case hq => (simp (maxSteps := 2000000) only [vm, reduceIte, Nat.reduceEqDiff]; rfl)); (case hvs => rfl))
            simp (maxSteps := 2000000) only [vm, vr, reduceIte, Nat.reduceEqDiff]
            (apply s_call (spec51 _ ?s34002x1 ?s34002x2); (case hf => rfl); (case hq => (simp (maxSteps := 2000000) only [vm, reduceIte, Nat.reduceEqDiff]; rfl)); (case hvs => rfl); (case s34002x1 | s34002x2 => first | assumption | omega | (simp; done) | (simp; omega)))
            (apply s_call (spec54 _ _ ?s34003x1 ?s34003x2); (case hf => rfl); (case hq => (simp (maxSteps := 2000000) only [vm, vr, reduceIte, Nat.reduceEqDiff]; rfl)); (case hvs => rfl); (case s34003x1 | s34003x2 => first | assumption | omega | (simp; done) | (simp; omega)))
            simp (maxSteps := 2000000) only [vm, vr, q96, reduceIte, Nat.reduceEqDiff, Nat.reduceAdd, Nat.reduceLeDiff]
            (apply s_call (spec117 _ _ ?s34004x1 ?s34004x2); (case hf => rfl); (case hq => (simp (maxSteps := 2000000) only [vm, reduceIte, Nat.reduceEqDiff]; rfl)); (case hvs => rfl); (case s34004x1 | s34004x2 => first | assumption | omega | (simp; done) | (simp; omega)))
            simp (maxSteps := 2000000) only [vm, vr, reduceIte, Nat.reduceEqDiff]
            (refine hK _ ?_; clear hK; clear K)
            refine vcode_if _ rfl (fun hb4 => ?_) (fun hb4 => ?_) <;> (have hp4 := hb4; try simp only [decide_eq_true_eq, decide_eq_false_iff_not, Int.not_le] at hp4)
            refine c_reg1 fun K hK => ?_
            simp (maxSteps := 2000000) only [vm, vr, hb4, reduceIte, Nat.reduceEqDiff]
            (refine hK _ ?_; clear hK; clear K)
            simp only [thenV_n, blockV_n]
            rotate_left
            refine c_reg1 fun K hK => ?_
            simp (maxSteps := 2000000) only [vm, vr, hb4, reduceIte, Nat.reduceEqDiff]
            (simp (disch := omega) only [wr64]; try simp (maxSteps := 2000000) only [vm, vr, vt, vp, q96, k1, e1, iri, hb, hb1, hbQ, hb2, hb3, hb4, Int.reduceBNe, Int.reduceBEq, Int.reduceLT, Int.reduceLE, Int.reduceGT, Int.reduceGE, decide_true, decide_false, bne_self_eq_false, beq_self_eq_true, reduceIte, Nat.reduceEqDiff, Nat.reduceAdd, Nat.reduceLeDiff, Nat.reduceMul, Nat.reduceLT, reduceCtorEq])
            (refine hK _ ?_; clear hK; clear K)
            simp only [thenV_n, blockV_n]
            rotate_left
            cases hb3
            · refine ⟨(m, hi), ?_, ⟨by simp only; omega, by simp only; omega, by simp only; omega, by simp only; omega⟩, by simp only; omega⟩
              simp (maxSteps := 2000000) only [vm, vmk, reduceIte, Nat.reduceEqDiff, Nat.reduceAdd, Nat.reduceLT, reduceCtorEq]
            · refine ⟨(lo, m - 1), ?_, ⟨by simp only; omega, by simp only; omega, by simp only; omega, by simp only; omega⟩, by simp only; omega⟩
              simp (maxSteps := 2000000) only [vm, vmk, reduceIte, Nat.reduceEqDiff, Nat.reduceAdd, Nat.reduceLT, reduceCtorEq]
          · have k1 : decide (lo < hi) = false := by simp; omega
            have hlo : lo = Q := by omega
            subst hlo
            have hmm := hml lo (by omega)
            refine c_assoc ?_
            refine c_reg fun K hK => ?_
            simp (maxSteps := 2000000) only [vm, vr, k1, reduceIte, Nat.reduceEqDiff]
            (refine hK _ ?_; clear hK; clear K)
            refine c_if _ rfl (fun hb3 => ?_) (fun hb3 => ?_) <;> (have hp3 := hb3; try simp only [] at hp3)
            cases hb3
            refine c_exit ?_
            simp only [thenV_n, thenV_e, blockV_e, reduceIte, Nat.reduceEqDiff]
            refine c_reg fun K hK => ?_
            simp (maxSteps := 2000000) only [vm, vr, q96, kk, reduceIte, Nat.reduceEqDiff, reduceCtorEq]
            refine need_by (by first | assumption | omega | (simp; done) | (simp; omega)) ?_
            (refine want_map 0 (by first | assumption | omega | (simp; done) | (simp; omega)) ?_; simp (maxSteps := 2000000) only [vm, vr, vp, Nat.reduceLeDiff])
            (refine hK _ ?_; clear hK; clear K)
            refine c_reg1 fun K hK => ?_
            simp (maxSteps := 2000000) only [vm, vr, q96, reduceIte, Nat.reduceEqDiff, Nat.reduceAdd, Nat.reduceLeDiff, reduceCtorEq]
            (apply s_call (hs92); (case hf => rfl); (case hq => (simp (maxSteps := 2000000) only [vm, reduceIte, Nat.reduceEqDiff]; rfl)); (case hvs => rfl))
            simp (maxSteps := 2000000) only [vm, vr, reduceIte, Nat.reduceEqDiff]
            (apply s_call (spec51 _ ?s34902x1 ?s34902x2); (case hf => rfl); (case hq => (simp (maxSteps := 2000000) only [vm, reduceIte, Nat.reduceEqDiff]; rfl)); (case hvs => rfl); (case s34902x1 | s34902x2 => first | assumption | omega | (simp; done) | (simp; omega)))
            (apply s_call (spec54 _ _ ?s34903x1 ?s34903x2); (case hf => rfl); (case hq => (simp (maxSteps := 2000000) only [vm, vr, reduceIte, Nat.reduceEqDiff]; rfl)); (case hvs => rfl); (case s34903x1 | s34903x2 => first | assumption | omega | (simp; done) | (simp; omega)))
            simp (maxSteps := 2000000) only [vm, vr, q96, reduceIte, Nat.reduceEqDiff, Nat.reduceAdd, Nat.reduceLeDiff]
            (apply s_call (hs118); (case hf => rfl); (case hq => (simp (maxSteps := 2000000) only [vm, reduceIte, Nat.reduceEqDiff]; rfl)); (case hvs => rfl))
            simp (maxSteps := 2000000) only [vm, vr, reduceIte, Nat.reduceEqDiff]
            (refine hK _ ?_; clear hK; clear K)
            simp only [thenV_n, blockV_n]
            refine c_reg1 fun K hK => ?_
            simp (maxSteps := 2000000) only [vm, vr, reduceIte, Nat.reduceEqDiff]
            (simp (disch := omega) only [wr64]; try simp (maxSteps := 2000000) only [vm, vr, vt, vp, q96, k1, kk, map_set', iri, hb, hb1, hb2, hbQ, hb3, Int.reduceBNe, Int.reduceBEq, Int.reduceLT, Int.reduceLE, Int.reduceGT, Int.reduceGE, decide_true, decide_false, bne_self_eq_false, beq_self_eq_true, reduceIte, Nat.reduceEqDiff, Nat.reduceAdd, Nat.reduceLeDiff, Nat.reduceMul, Nat.reduceLT, reduceCtorEq])
            (refine hK _ ?_; clear hK; clear K)
            simp only [thenV_n]
            have ka' : (k - 1 = (digs a.natAbs).length) = False := by simp; omega
            refine ⟨(k - 1, q.set (k - 1) lo), ?_, ⟨by simp only; omega, hN⟩, by simp only; omega⟩
            (simp (maxSteps := 2000000) only [vm, vr, ka', vmk, reduceIte, Nat.reduceEqDiff, Nat.reduceAdd, Nat.reduceLT, reduceCtorEq]; try simp (disch := omega) only [wr64]; try omega)
            omega
      · have ka : (k = (digs a.natAbs).length) = True := by simp; omega
        have hs115 : Sp0 115 [.sl [nn d]] (R.v (.sl ((digs F).map nn))) := by
          have hkk : k = (digs a.natAbs).length := by omega
          rw [hkk, hR0, digs_zero] at hs115'
          exact hs115'
        refine c_assoc ?_
        refine c_reg fun K hK => ?_
        simp (maxSteps := 2000000) only [vm, vr, k0, ka, reduceIte, Nat.reduceEqDiff]
        (refine hK _ ?_; clear hK; clear K)
        refine c_if _ rfl (fun hb2 => ?_) (fun hb2 => ?_) <;> (have hp2 := hb2; try simp only [] at hp2)
        refine c_skip ?_
        refine c_block ?_
        refine c_reg fun K hK => ?_
        simp (maxSteps := 2000000) only [vm, vr, vp, q96, reduceIte, Nat.reduceEqDiff, Nat.reduceAdd, Nat.reduceLeDiff, Nat.reduceMul, reduceCtorEq]
        (refine atI_map 0 (by first | assumption | omega | (simp; done) | (simp; omega)) (by first | assumption | omega | (simp; done) | (simp; omega)) ?_; simp (maxSteps := 2000000) only [vm, vr, q96, kk, hd', reduceIte, Nat.reduceEqDiff, Nat.reduceAdd, Nat.reduceLeDiff, Nat.reduceMul, reduceCtorEq])
        refine need_by (by first | assumption | omega | (simp; done) | (simp; omega)) ?_
        refine need_by (by first | assumption | omega | (simp; done) | (simp; omega)) ?_
        (apply s_call (hs115); (case hf => rfl); (case hq => (simp (maxSteps := 2000000) only [vm, reduceIte, Nat.reduceEqDiff, reduceCtorEq]; rfl)); (case hvs => rfl))
        simp (maxSteps := 2000000) only [vm, vr, reduceIte, Nat.reduceEqDiff]
        (refine hK _ ?_; clear hK; clear K)
        refine c_reg fun K hK => ?_
        simp (maxSteps := 2000000) only [vm, vr]
        (refine hK _ ?_; clear hK; clear K)
        refine c_block ?_
        rotate_left
        cases hb2
        refine vcode_loop (fun x : Int × Int => [(2, L.own 2 0), (3, L.own 3 0), (4, L.own 4 0), (5, L.arr 19 0), (6, L.p (V.sl (List.map nn (digs F)))), (7, L.p (nn ((k : Int) - 1))), (8, L.p (nn x.1)), (9, L.p (nn x.2))]) (fun _ => [(Key.a 19, M.arr 0 3 1 (List.map nn q)), (Key.b 4, M.box 2), (Key.c 4 0, M.cell (L.p (V.i IntKind.i64 0))), (Key.c 4 1, M.cell L.nilS), (Key.b 3, M.box 2), (Key.c 3 0, M.cell (L.p (nn b.sign))), (Key.c 3 1, M.cell (L.p (V.sl (List.map nn (digs b.natAbs))))), (Key.b 2, M.box 2), (Key.c 2 0, M.cell (L.p (nn a.sign))), (Key.c 2 1, M.cell (L.p (V.sl (List.map nn (digs a.natAbs)))))]) (fun x => 0 ≤ x.1 ∧ x.1 ≤ Q ∧ Q ≤ x.2 ∧ x.2 ≤ 999999999) (fun x => (x.2 - x.1).toNat) (0, 999999999) ⟨by simp, hQ0, by simp only; omega, by simp⟩ ?_ ?_
        · simp (maxSteps := 2000000) only [vm, vmk, reduceIte, Nat.reduceEqDiff, Nat.reduceAdd, Nat.reduceLT, reduceCtorEq]
        · rintro ⟨lo, hi⟩ ⟨h1, h2, h3, h4⟩
          simp only at h1 h2 h3 h4 ⊢
          rcases Int.lt_or_le lo hi with hlt | hge
          · have k1 : decide (lo < hi) = true := by simp; omega
            obtain ⟨m, hm⟩ : ∃ m, m = (lo + hi + 1) / 2 := ⟨_, rfl⟩
            have e1 : (lo + hi + 1).tdiv 2 = m := by rw [hm]; exact Int.tdiv_eq_ediv_of_nonneg (by omega)
            have hmm := hml m (by omega)
            have hcc := hcm m (by omega)
            refine c_assoc ?_
            refine c_reg fun K hK => ?_
            simp (maxSteps := 2000000) only [vm, vr, k1, reduceIte, Nat.reduceEqDiff]
            (refine hK _ ?_; clear hK; clear K)
            refine c_if _ rfl (fun hb3 => ?_) (fun hb3 => ?_) <;> (have hp3 := hb3; try simp only [] at hp3)
            refine c_skip ?_
            refine c_block1 ?_
            refine c_reg fun K hK => ?_
            simp (maxSteps := 2000000) only [vm, vr, reduceIte, Nat.reduceEqDiff]
            refine need_by (by first | assumption | omega | (simp; done) | (simp; omega)) ?_
            (simp (disch := omega) only [wr64]; try simp (maxSteps := 2000000) only [e1])
            (refine hK _ ?_; clear hK; clear K)
            refine c_reg fun K hK => ?_
            simp (maxSteps := 2000000) only [vm, vr, q96, reduceIte, Nat.reduceEqDiff, Nat.reduceAdd, Nat.reduceLeDiff, reduceCtorEq]
            (apply s_call (hs92); (case hf => rfl); (case hq => (simp (maxSteps := 2000000) only [vm, reduceIte, Nat.reduceEqDiff]; rfl)); (case hvs => rfl))
            simp (maxSteps := 2000000) only [vm, vr, reduceIte, Nat.reduceEqDiff]
            (apply s_call (spec51 _ ?s37002x1 ?s37002x2); (case hf => rfl); (case hq => (simp (maxSteps := 2000000) only [vm, reduceIte, Nat.reduceEqDiff]; rfl)); (case hvs => rfl); (case s37002x1 | s37002x2 => first | assumption | omega | (simp; done) | (simp; omega)))
            (apply s_call (spec54 _ _ ?s37003x1 ?s37003x2); (case hf => rfl); (case hq => (simp (maxSteps := 2000000) only [vm, vr, reduceIte, Nat.reduceEqDiff]; rfl)); (case hvs => rfl); (case s37003x1 | s37003x2 => first | assumption | omega | (simp; done) | (simp; omega)))
            simp (maxSteps := 2000000) only [vm, vr, q96, reduceIte, Nat.reduceEqDiff, Nat.reduceAdd, Nat.reduceLeDiff]
            (apply s_call (spec117 _ _ ?s37004x1 ?s37004x2); (case hf => rfl); (case hq => (simp (maxSteps := 2000000) only [vm, reduceIte, Nat.reduceEqDiff]; rfl)); (case hvs => rfl); (case s37004x1 | s37004x2 => first | assumption | omega | (simp; done) | (simp; omega)))
            simp (maxSteps := 2000000) only [vm, vr, reduceIte, Nat.reduceEqDiff]
            (refine hK _ ?_; clear hK; clear K)
            refine vcode_if _ rfl (fun hb4 => ?_) (fun hb4 => ?_) <;> (have hp4 := hb4; try simp only [decide_eq_true_eq, decide_eq_false_iff_not, Int.not_le] at hp4)
            refine c_reg1 fun K hK => ?_
            simp (maxSteps := 2000000) only [vm, vr, hb4, reduceIte, Nat.reduceEqDiff]
            (refine hK _ ?_; clear hK; clear K)
            simp only [thenV_n, blockV_n]
            rotate_left
            refine c_reg1 fun K hK => ?_
            simp (maxSteps := 2000000) only [vm, vr, hb4, reduceIte, Nat.reduceEqDiff]
            (simp (disch := omega) only [wr64]; try simp (maxSteps := 2000000) only [vm, vr, vt, vp, q96, k1, e1, iri, hb, hb1, hbQ, hb2, hb3, hb4, Int.reduceBNe, Int.reduceBEq, Int.reduceLT, Int.reduceLE, Int.reduceGT, Int.reduceGE, decide_true, decide_false, bne_self_eq_false, beq_self_eq_true, reduceIte, Nat.reduceEqDiff, Nat.reduceAdd, Nat.reduceLeDiff, Nat.reduceMul, Nat.reduceLT, reduceCtorEq])
            (refine hK _ ?_; clear hK; clear K)
            simp only [thenV_n, blockV_n]
            rotate_left
            cases hb3
            · refine ⟨(m, hi), ?_, ⟨by simp only; omega, by simp only; omega, by simp only; omega, by simp only; omega⟩, by simp only; omega⟩
              simp (maxSteps := 2000000) only [vm, vmk, reduceIte, Nat.reduceEqDiff, Nat.reduceAdd, Nat.reduceLT, reduceCtorEq]
            · refine ⟨(lo, m - 1), ?_, ⟨by simp only; omega, by simp only; omega, by simp only; omega, by simp only; omega⟩, by simp only; omega⟩
              simp (maxSteps := 2000000) only [vm, vmk, reduceIte, Nat.reduceEqDiff, Nat.reduceAdd, Nat.reduceLT, reduceCtorEq]
          · have k1 : decide (lo < hi) = false := by simp; omega
            have hlo : lo = Q := by omega
            subst hlo
            have hmm := hml lo (by omega)
            refine c_assoc ?_
            refine c_reg fun K hK => ?_
            simp (maxSteps := 2000000) only [vm, vr, k1, reduceIte, Nat.reduceEqDiff]
            (refine hK _ ?_; clear hK; clear K)
            refine c_if _ rfl (fun hb3 => ?_) (fun hb3 => ?_) <;> (have hp3 := hb3; try simp only [] at hp3)
            cases hb3
            refine c_exit ?_
            simp only [thenV_n, thenV_e, blockV_e, reduceIte, Nat.reduceEqDiff]
            refine c_reg fun K hK => ?_
            simp (maxSteps := 2000000) only [vm, vr, q96, kk, reduceIte, Nat.reduceEqDiff, reduceCtorEq]
            refine need_by (by first | assumption | omega | (simp; done) | (simp; omega)) ?_
            (refine want_map 0 (by first | assumption | omega | (simp; done) | (simp; omega)) ?_; simp (maxSteps := 2000000) only [vm, vr, vp, Nat.reduceLeDiff])
            (refine hK _ ?_; clear hK; clear K)
            refine c_reg1 fun K hK => ?_
            simp (maxSteps := 2000000) only [vm, vr, q96, reduceIte, Nat.reduceEqDiff, Nat.reduceAdd, Nat.reduceLeDiff, reduceCtorEq]
            (apply s_call (hs92); (case hf => rfl); (case hq => (simp (maxSteps := 2000000) only [vm, reduceIte, Nat.reduceEqDiff]; rfl)); (case hvs => rfl))
            simp (maxSteps := 2000000) only [vm, vr, reduceIte, Nat.reduceEqDiff]
            (apply s_call (spec51 _ ?s37902x1 ?s37902x2); (case hf => rfl); (case hq => (simp (maxSteps := 2000000) only [vm, reduceIte, Nat.reduceEqDiff]; rfl)); (case hvs => rfl); (case s37902x1 | s37902x2 => first | assumption | omega | (simp; done) | (simp; omega)))
            (apply s_call (spec54 _ _ ?s37903x1 ?s37903x2); (case hf => rfl); (case hq => (simp (maxSteps := 2000000) only [vm, vr, reduceIte, Nat.reduceEqDiff]; rfl)); (case hvs => rfl); (case s37903x1 | s37903x2 => first | assumption | omega | (simp; done) | (simp; omega)))
            simp (maxSteps := 2000000) only [vm, vr, q96, reduceIte, Nat.reduceEqDiff, Nat.reduceAdd, Nat.reduceLeDiff]
            (apply s_call (hs118); (case hf => rfl); (case hq => (simp (maxSteps := 2000000) only [vm, reduceIte, Nat.reduceEqDiff]; rfl)); (case hvs => rfl))
            simp (maxSteps := 2000000) only [vm, vr, reduceIte, Nat.reduceEqDiff]
            (refine hK _ ?_; clear hK; clear K)
            simp only [thenV_n, blockV_n]
            refine c_reg1 fun K hK => ?_
            simp (maxSteps := 2000000) only [vm, vr, reduceIte, Nat.reduceEqDiff]
            (simp (disch := omega) only [wr64]; try simp (maxSteps := 2000000) only [vm, vr, vt, vp, q96, k1, kk, map_set', iri, hb, hb1, hb2, hbQ, hb3, Int.reduceBNe, Int.reduceBEq, Int.reduceLT, Int.reduceLE, Int.reduceGT, Int.reduceGE, decide_true, decide_false, bne_self_eq_false, beq_self_eq_true, reduceIte, Nat.reduceEqDiff, Nat.reduceAdd, Nat.reduceLeDiff, Nat.reduceMul, Nat.reduceLT, reduceCtorEq])
            (refine hK _ ?_; clear hK; clear K)
            simp only [thenV_n]
            have ka' : (k - 1 = (digs a.natAbs).length) = False := by simp; omega
            refine ⟨(k - 1, q.set (k - 1) lo), ?_, ⟨by simp only; omega, hN⟩, by simp only; omega⟩
            (simp (maxSteps := 2000000) only [vm, vr, ka', vmk, reduceIte, Nat.reduceEqDiff, Nat.reduceAdd, Nat.reduceLT, reduceCtorEq]; try simp (disch := omega) only [wr64]; try omega)
            omega
theorem spec95 (a b : Int) (ha : (digs a.natAbs).length < 1000) (hb : (digs b.natAbs).length < 1000) : Sp0 95 [W a, W b] (R.v (W (Int.gcd a b))) := by
  refine spec_of mixed (fun _ _ _ h => h) Tryz.func95 (by decide +kernel) rfl (rs := _) rfl (by rfl) rfl (by simp [Tryz.f95]) (by decide +kernel) ?_; simp only [argsG, Nat.zero_add]
  refine c_reg fun K hK => ?_
  simp (maxSteps := 2000000) only [vm, vr, q95, reduceIte, Nat.reduceEqDiff, Nat.reduceAdd, reduceCtorEq]
  refine need_by (by first | assumption | omega | (simp; done) | (simp; omega)) ?_
  refine need_by (by first | assumption | omega | (simp; done) | (simp; omega)) ?_
  refine need_by (by first | assumption | omega | (simp; done) | (simp; omega)) ?_
  (refine hK _ ?_; clear hK; clear K)
  refine c_draw fun K hK => ?_
  simp (maxSteps := 2000000) only [vm, vr, q95, reduceIte, Nat.reduceEqDiff, Nat.reduceAdd, Nat.reduceLeDiff, reduceCtorEq]
  (apply d_call (spec116 _); (case hf => rfl); (case hq => (simp (maxSteps := 2000000) only [vm, reduceIte, Nat.reduceEqDiff, reduceCtorEq]; rfl)); (case hvs => rfl))
  simp (maxSteps := 2000000) only [vm, vr, q95, reduceIte, Nat.reduceEqDiff, Nat.reduceAdd, Nat.reduceLeDiff, reduceCtorEq]
  (apply d_call (spec116 _); (case hf => rfl); (case hq => (simp (maxSteps := 2000000) only [vm, reduceIte, Nat.reduceEqDiff, reduceCtorEq]; rfl)); (case hvs => rfl))
  simp (maxSteps := 2000000) only [vm, vr, q95, reduceIte, Nat.reduceEqDiff, Nat.reduceAdd, Nat.reduceLeDiff, reduceCtorEq]
  (refine draw_ok (by decide +kernel) (hK _ ?_); clear hK; clear K)
  refine c_block ?_
  refine vcode_loop (fun x : Nat × Nat => [(2, L.own 2 0), (3, L.own 3 0), (4, L.own 4 0)]) (fun x => [(Key.c 3 0, M.cell (L.p (nn (x.2 : Int).sign))), (Key.c 3 1, M.cell (L.p (V.sl (List.map nn (digs (x.2 : Int).natAbs))))), (Key.c 2 0, M.cell (L.p (nn (x.1 : Int).sign))), (Key.c 2 1, M.cell (L.p (V.sl (List.map nn (digs (x.1 : Int).natAbs))))), (Key.b 4, M.box 2), (Key.c 4 0, M.cell (L.p (V.i IntKind.i64 0))), (Key.c 4 1, M.cell L.nilS), (Key.b 3, M.box 2), (Key.b 2, M.box 2)]) (fun x => Nat.gcd x.1 x.2 = Int.gcd a b ∧ (digs x.1).length < 1000 ∧ (digs x.2).length < 1000) (fun x => x.2) (a.natAbs, b.natAbs) ⟨rfl, ha, hb⟩ ?_ ?_
  · simp (maxSteps := 2000000) only [vm, vmk, reduceIte, Nat.reduceEqDiff, Nat.reduceAdd, Nat.reduceLT, reduceCtorEq]
  · rintro ⟨x, y⟩ ⟨hg, hx, hy⟩
    simp only at hg hx hy ⊢
    have hsy := sign_cases (y : Int)
    have hx' : (digs (x : Int).natAbs).length < 1000 := hx
    have hy' : (digs (y : Int).natAbs).length < 1000 := hy
    rcases Nat.eq_zero_or_pos y with rfl | hp
    · have k0 : (Int.sign 0 != 0) = false := by decide
      rw [Nat.gcd_zero_right] at hg
      refine c_assoc ?_
      refine c_reg fun K hK => ?_
      simp (maxSteps := 2000000) only [vm, vr, vp, q95, reduceIte, Nat.reduceEqDiff, Nat.reduceAdd, Nat.reduceLeDiff, reduceCtorEq]
      (apply s_call (spec93 _); (case hf => rfl); (case hq => (simp (maxSteps := 2000000) only [vm, reduceIte, Nat.reduceEqDiff]; rfl)); (case hvs => rfl))
      simp (maxSteps := 2000000) only [vm, vr, k0, reduceIte, Nat.reduceEqDiff]
      (refine hK _ ?_; clear hK; clear K)
      refine c_if _ rfl (fun hb1 => ?_) (fun hb1 => ?_) <;> (have hp1 := hb1; try simp only [] at hp1)
      cases hb1
      refine c_exit ?_
      simp only [thenV_n, thenV_e, blockV_e, reduceIte]
      refine c_reg fun K hK => ?_
      simp (maxSteps := 2000000) only [vm, vr, q95, reduceIte, Nat.reduceEqDiff, Nat.reduceAdd, Nat.reduceLeDiff, reduceCtorEq]
      (refine hK _ ?_; clear hK; clear K)
      refine c_ret1 ?_
      simp (maxSteps := 2000000) only [vm, q95, reduceIte, Nat.reduceEqDiff, Nat.reduceAdd, Nat.reduceLeDiff, reduceCtorEq]
      rw [← hg]
    · have k0 : ((y : Int).sign != 0) = true := by simp; omega
      have hq : (digs ((x : Int) / y).natAbs).length ≤ (digs x).length := digs_len_mono (by
        have := Int.ediv_le_self (a := (x : Int)) y (by omega)
        have := Int.ediv_nonneg (a := (x : Int)) (b := y) (by omega) (by omega)
        omega)
      have hm : ((x : Int) / y * y).natAbs ≤ x := by
        have h1 := Int.mul_ediv_add_emod (x : Int) y
        have h2 := Int.emod_nonneg (x : Int) (show (y : Int) ≠ 0 by omega)
        have h3 := Int.ediv_nonneg (a := (x : Int)) (b := y) (by omega) (by omega)
        have h4 := Int.mul_nonneg h3 (show (0 : Int) ≤ y by omega)
        rw [Int.mul_comm] at h1
        omega
      have hml := digs_len_mono hm
      have hr : (x : Int) - (x : Int) / y * y = ((x % y : Nat) : Int) := by
        have h1 := Int.mul_ediv_add_emod (x : Int) y
        have h2 : ((x % y : Nat) : Int) = (x : Int) % (y : Int) := rfl
        rw [h2, Int.mul_comm]; omega
      have hlt := Nat.mod_lt x hp
      have hrl := digs_len_mono (Nat.le_of_lt hlt)
      have hgg : Nat.gcd y (x % y) = Int.gcd a b := by rw [← hg, Nat.gcd_comm x y, Nat.gcd_rec y x, Nat.gcd_comm]
      refine c_assoc ?_
      refine c_reg fun K hK => ?_
      simp (maxSteps := 2000000) only [vm, vr, q95, reduceIte, Nat.reduceEqDiff, Nat.reduceAdd, Nat.reduceLeDiff, reduceCtorEq]
      (apply s_call (spec93 _); (case hf => rfl); (case hq => (simp (maxSteps := 2000000) only [vm, reduceIte, Nat.reduceEqDiff]; rfl)); (case hvs => rfl))
      simp (maxSteps := 2000000) only [vm, vr, k0, reduceIte, Nat.reduceEqDiff]
      (refine hK _ ?_; clear hK; clear K)
      refine c_if _ rfl (fun hb1 => ?_) (fun hb1 => ?_) <;> (have hp1 := hb1; try simp only [] at hp1)
      refine c_skip ?_
      refine c_block1 ?_
      refine c_draw fun K hK => ?_
      simp (maxSteps := 2000000) only [vm, vr, q95, reduceIte, Nat.reduceEqDiff, Nat.reduceAdd, Nat.reduceLeDiff, reduceCtorEq]
      (apply d_call (spec96 _ _ ?s41902x1 ?s41902x2 ?s41902x3); (case hf => rfl); (case hq => (simp (maxSteps := 2000000) only [vm, reduceIte, Nat.reduceEqDiff]; rfl)); (case hvs => rfl); (case s41902x1 | s41902x2 | s41902x3 => first | assumption | omega | (simp; done) | (simp; omega)))
      simp (maxSteps := 2000000) only [vm, vr, q95, reduceIte, Nat.reduceEqDiff, Nat.reduceAdd, Nat.reduceLeDiff, reduceCtorEq]
      (apply d_call (spec54 _ _ ?s41903x1 ?s41903x2); (case hf => rfl); (case hq => (simp (maxSteps := 2000000) only [vm, reduceIte, Nat.reduceEqDiff]; rfl)); (case hvs => rfl); (case s41903x1 | s41903x2 => first | assumption | omega | (simp; done) | (simp; omega)))
      (apply d_call (spec98 _ _ ?s41904x1 ?s41904x2); (case hf => rfl); (case hq => (simp (maxSteps := 2000000) only [vm, vr, reduceIte, Nat.reduceEqDiff]; rfl)); (case hvs => rfl); (case s41904x1 | s41904x2 => first | assumption | omega | (simp; done) | (simp; omega)))
      simp (maxSteps := 2000000) only [vm, vr, q95, hr, reduceIte, Nat.reduceEqDiff, Nat.reduceAdd, Nat.reduceLeDiff, reduceCtorEq]
      refine need_by (by first | assumption | omega | (simp; done) | (simp; omega)) ?_
      (refine draw_ok (by decide +kernel) (hK _ ?_); clear hK; clear K)
      refine c_draw1 fun K hK => ?_
      simp (maxSteps := 2000000) only [vm, vr, q95, reduceIte, Nat.reduceEqDiff, Nat.reduceAdd, Nat.reduceLeDiff, reduceCtorEq]
      (refine draw_ok (by decide +kernel) (hK _ ?_); clear hK; clear K)
      simp only [thenV_n, blockV_n]
      rotate_left
      cases hb1
      refine ⟨(y, x % y), ?_, ⟨hgg, hy, by simp only; omega⟩, hlt⟩
      simp (maxSteps := 2000000) only [vm, vmk, reduceIte, Nat.reduceEqDiff, Nat.reduceAdd, Nat.reduceLT, reduceCtorEq]
end Go.Vm
