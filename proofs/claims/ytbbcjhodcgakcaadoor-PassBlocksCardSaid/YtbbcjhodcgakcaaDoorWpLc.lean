import Derived.Test.YtbbcjhodcgakcaaDoorVmBC
import Derived.Test.YtbbcjhodcgakcaaDoorWpLb
set_option linter.all false
namespace Go.Vm
open Go.Proofs
set_option maxRecDepth 20000
set_option maxHeartbeats 8000000
--DEF RUL = nn r.width; nn r.start; nn r.finish; nn r.hlo; nn r.hhi; nn r.cold; V.sl (r.stands.map stdV); nn r.slo; nn r.shi; nn r.flo; nn r.fhi
--DEF Q = q3
theorem blaw_some (r : PRules) (g : Int) (k : Nat) (S : List Nat) (h : fewV r noS = true) (h0 : (rulesE r).2 = 0) (h1 : gridE r g = 0) (h2 : heavyV r g = false) (gB : blockAt r (gridL r g) 0 r.stands.length = some (k, S)) : Sp0 3 [rulV r, nn g] (R.v (.b true)) := by
  obtain ⟨hl, _, _⟩ := few_ok h
  have hr := rul_ok h0
  have hrl := hr.len
  obtain ⟨hw, h40⟩ := grid_zero h1
  have k1 : ((rulesE r).2 != 0) = false := by simpa using h0
  have k2 : (gridE r g != 0) = false := by simpa using h1
  have hL := grid_ok (g := g) hr
  obtain ⟨_, hk, gbb, gbk, hS⟩ := blockAt_some gB
  dsimp only at hk gbb gbk hS
  have hkl : k < r.stands.length := by omega
  have hm := excl_mem (r := r) (T := gridL r g) (k := k) (fr := frN r (gridL r g) k)
  rw [← hS] at hm
  obtain ⟨s1, s2, s3⟩ := allS_ok S hm
  have hcold : k + 1 < r.stands.length → (cI S).any (fun x => x == 3) = true := fun hk1 => by
    obtain ⟨q, hq, hq2⟩ := fr_some (r := r) hL.ne (n := k) (fun j hj => gbb j (Nat.zero_le _) hj)
    have := excl_cold hr hk1 hq hq2 gbk
    rw [← hS] at this
    exact any_cI.2 this
  obtain ⟨f, hf⟩ : ∃ f, (cI S).any (fun x => x == 0) = f := ⟨_, rfl⟩
  obtain ⟨t, ht⟩ : ∃ t, (cI S).any (fun x => x == 1) = t := ⟨_, rfl⟩
  have gB' := gB
  rw [hS] at gB'
  obtain ⟨S2, hoth⟩ := others_same (f := !f) (t := !t) hkl gB' (by rw [← hS]; exact others_none hf ht)
  have hfin : ∀ S3, blockAt (lifR r k f t) (gridL r g) 0 r.stands.length = some (k, S3) → allV (cI S) = true → ∀ i, i < (cI S3).length → (cI S).any (fun x => x == (cI S3).getD i 0) = false := fun S3 h3 ha i hi =>
    lifted_fin hf ht (lifted_none hr hL hkl h3) ha hi
  have hs8 := spec8 r g hr _ rfl
  have hs10 : Sp0 10 [rulV r, nn g] (R.v2 (.agg [nn k, .sl ((cI S).map nn)]) (nn 0)) := by
    have := spec10w2 r g hl h0 hr hw h40
    rw [gB] at this; exact this
  have go : ∀ f t : Bool, ∀ o, blockAt (lifR r k f t) (gridL r g) 0 r.stands.length = o → Sp0 10 [rulV (lifR r k f t), nn g] (R.v2 (blockR o) (nn (blockE o))) := fun f t o ho => by
    have hr2 := lif_ok (f := f) (t := t) hr hkl
    have := spec10w2 (lifR r k f t) g (by rw [lif_len]; exact hl) (rul_conv hr2) hr2 hw (by rw [lif_grid]; exact h40)
    rw [lif_grid, lif_len, ho] at this
    exact this
  have n1 : (cI S).length = S.length := by simp
  have p1 : withinV (k : Int) 0 ((r.stands.length : Int) - 1) = true := wi2.2 ⟨by omega, by omega⟩
  have p2' : withinV ((cI S).length : Int) 1 4 = true := wi2.2 ⟨by omega, by omega⟩
  have wl : IntKind.wrap .i64 ((r.stands.length : Int) - 1) = (r.stands.length : Int) - 1 := wr64 (by omega) (by omega)
  have hlen : ∀ f t k2 S3, blockAt (lifR r k f t) (gridL r g) 0 r.stands.length = some (k2, S3) → (cI S3).length < 1000000 := fun f t k2 S3 h3 => by
    obtain ⟨_, _, _, _, h5⟩ := blockAt_some h3
    dsimp only at h5
    have := (allS_ok _ (excl_mem (r := lifR r k f t) (T := gridL r g) (k := k2) (fr := frN (lifR r k f t) (gridL r g) k2))).2.1
    rw [← h5] at this
    rw [List.length_map]; omega
  have hid : blockAt (lifR r k false false) (gridL r g) 0 r.stands.length = some (k, S) := by rw [lif_id hkl]; exact gB
  generalize hA : cI S = A at *
  refine spec_of mixed (fun _ _ _ h => h) Tryd.func3 (by decide +kernel) rfl (rs := _) rfl (by rfl) rfl (by simp [Tryd.f3]) (by decide +kernel) ?_; simp only [argsG, Nat.zero_add]
  refine c_reg fun K hK => ?_
  simp (maxSteps := 2000000) only [vm, vr, reduceIte, Nat.reduceAdd, reduceCtorEq]
  refine need_by (by first | assumption | omega | (simp; done) | (simp; omega)) ?_
  (refine hK _ ?_; clear hK; clear K)
  refine c_assoc ?_
  refine c_reg fun K hK => ?_
  (apply s_call (spec5); (case hf => rfl); (case hq => (simp (maxSteps := 2000000) only [vm]; rfl)); (case hvs => rfl))
  simp (maxSteps := 2000000) only [vm, vr, reduceIte, Nat.reduceEqDiff, reduceCtorEq]
  (refine hK _ ?_; clear hK; clear K)
  refine c_if _ rfl (fun hb1 => ?_) (fun hb1 => ?_) <;> (have hp1 := hb1; try simp only [] at hp1)
  cases hb1
  refine c_skip ?_
  refine c_assoc ?_
  refine c_reg fun K hK => ?_
  simp (maxSteps := 2000000) only [vm, vr, vp, q3, reduceIte, Nat.reduceEqDiff, Nat.reduceAdd, Nat.reduceLeDiff, reduceCtorEq]
  (apply s_call (spec6w2 _); (case hf => rfl); (case hq => (simp (maxSteps := 2000000) only [vm, reduceIte, Nat.reduceEqDiff, reduceCtorEq]; rfl)); (case hvs => rfl))
  simp (maxSteps := 2000000) only [vm, vr, q3, h, reduceIte, Nat.reduceEqDiff, Nat.reduceAdd, Nat.reduceLeDiff, reduceCtorEq]
  (apply s_call (spec7 _ ?s5904x1); (case hf => rfl); (case hq => (simp (maxSteps := 2000000) only [vm, reduceIte, Nat.reduceEqDiff, reduceCtorEq]; rfl)); (case hvs => rfl); (case s5904x1 => first | assumption | omega | (simp; done) | (simp; omega)))
  simp (maxSteps := 2000000) only [vm, vr, q3, k1, reduceIte, Nat.reduceEqDiff, Nat.reduceAdd, Nat.reduceLeDiff, reduceCtorEq]
  (apply s_call (hs8); (case hf => rfl); (case hq => (simp (maxSteps := 2000000) only [vm, reduceIte, Nat.reduceEqDiff, reduceCtorEq]; rfl)); (case hvs => rfl))
  simp (maxSteps := 2000000) only [vm, vr, q3, k2, reduceIte, Nat.reduceEqDiff, Nat.reduceAdd, Nat.reduceLeDiff, reduceCtorEq]
  (apply s_call (spec9 _ _ ?s5906x1); (case hf => rfl); (case hq => (simp (maxSteps := 2000000) only [vm, reduceIte, Nat.reduceEqDiff, reduceCtorEq]; rfl)); (case hvs => rfl); (case s5906x1 => first | assumption | omega | (simp; done) | (simp; omega)))
  simp (maxSteps := 2000000) only [vm, vr, h2, reduceIte, Nat.reduceEqDiff, reduceCtorEq]
  (refine hK _ ?_; clear hK; clear K)
  refine c_if _ rfl (fun hb2 => ?_) (fun hb2 => ?_) <;> (have hp2 := hb2; try simp only [] at hp2)
  cases hb2
  refine c_skip ?_
  refine c_reg fun K hK => ?_
  simp (maxSteps := 2000000) only [vm, vr, q3, reduceIte, Nat.reduceEqDiff, Nat.reduceAdd, Nat.reduceLeDiff, reduceCtorEq]
  (apply s_callx (spec11 _ ?s5907x1); (case hf => rfl); (case hq => (simp (maxSteps := 2000000) only [vm, reduceIte, Nat.reduceEqDiff, reduceCtorEq]; rfl)); (case hvs => rfl); (case hL => (simp only [vm, R.toL, R1.toL, rcsToL, RC.toL, siteN, reduceIte, Nat.reduceAdd, Nat.reduceMul]; rfl)); (case hfr => (simp (maxSteps := 2000000) only [vm, vr, reduceIte, Nat.reduceEqDiff, reduceCtorEq]; try rfl)); (case s5907x1 => first | assumption | omega | (simp; done) | (simp; omega)))
  simp (maxSteps := 2000000) only [vm, vr, vp, reduceIte, Nat.reduceEqDiff, reduceCtorEq]
  (apply s_call2 (hs10); (case hf => rfl); (case hq => (simp (maxSteps := 2000000) only [vm, vr, reduceIte, Nat.reduceEqDiff, reduceCtorEq]; rfl)); (case hvs => rfl))
  simp (maxSteps := 2000000) only [vm, vr, q3, reduceIte, Nat.reduceEqDiff, Nat.reduceAdd, Nat.reduceLeDiff, reduceCtorEq]
  refine need_by (by first | assumption | omega | (simp; done) | (simp; omega)) ?_
  (refine hK _ ?_; clear hK; clear K)
  refine c_assoc ?_
  refine c_reg fun K hK => ?_
  simp (maxSteps := 2000000) only [vm, vr, bne_self_eq_false, reduceIte, Nat.reduceEqDiff, reduceCtorEq]
  (refine hK _ ?_; clear hK; clear K)
  refine c_if _ rfl (fun hb3 => ?_) (fun hb3 => ?_) <;> (have hp3 := hb3; try simp only [] at hp3)
  cases hb3
  refine c_skip ?_
  refine c_assoc ?_
  refine c_reg fun K hK => ?_
  simp (maxSteps := 2000000) only [vm, vr, q3, wl, reduceIte, Nat.reduceEqDiff, Nat.reduceAdd, Nat.reduceLeDiff, reduceCtorEq]
  (apply s_call (spec12 _ _ _); (case hf => rfl); (case hq => (simp (maxSteps := 2000000) only [vm, reduceIte, Nat.reduceEqDiff, reduceCtorEq]; rfl)); (case hvs => rfl))
  simp (maxSteps := 2000000) only [vm, vr, q3, p1, reduceIte, Nat.reduceEqDiff, Nat.reduceAdd, Nat.reduceLeDiff, reduceCtorEq]
  (apply s_call (spec12 _ _ _); (case hf => rfl); (case hq => (simp (maxSteps := 2000000) only [vm, reduceIte, Nat.reduceEqDiff, reduceCtorEq]; rfl)); (case hvs => rfl))
  simp (maxSteps := 2000000) only [vm, vr, p2', reduceIte, Nat.reduceEqDiff, reduceCtorEq]
  (refine hK _ ?_; clear hK; clear K)
  refine c_if _ rfl (fun hb4 => ?_) (fun hb4 => ?_) <;> (have hp4 := hb4; try simp only [] at hp4)
  cases hb4
  refine c_skip ?_
  refine c_assoc ?_
  refine vcode_cut (fun _ : Unit => [(1, L.p (nn g)), (2, L.own 2 0), (4, L.p (V.b false)), (5, L.own 5 0), (82, L.p (V.b false))]) (fun _ => [(Key.b 5, M.box 2), (Key.c 5 0, M.cell (L.p (nn k))), (Key.c 5 1, M.cell (L.p (V.sl (List.map nn A)))), (Key.b 2, M.box 11), (Key.c 2 0, M.cell (L.p (nn r.width))), (Key.c 2 1, M.cell (L.p (nn r.start))), (Key.c 2 2, M.cell (L.p (nn r.finish))), (Key.c 2 3, M.cell (L.p (nn r.hlo))), (Key.c 2 4, M.cell (L.p (nn r.hhi))), (Key.c 2 5, M.cell (L.p (nn r.cold))), (Key.c 2 6, M.cell (L.p (V.sl (r.stands.map stdV)))), (Key.c 2 7, M.cell (L.p (nn r.slo))), (Key.c 2 8, M.cell (L.p (nn r.shi))), (Key.c 2 9, M.cell (L.p (nn r.flo))), (Key.c 2 10, M.cell (L.p (nn r.fhi)))]) (fun _ => True) ?_ ?_
  · rintro ⟨⟩ _
    refine c_if _ rfl (fun hb5 => ?_) (fun hb5 => ?_) <;> (have hp5 := hb5; try simp only [] at hp5)
    cases hb5
    refine c_skip ?_
    refine c_draw fun K hK => ?_
    simp (maxSteps := 2000000) only [vm, vr, q3, reduceIte, Nat.reduceEqDiff, Nat.reduceAdd, Nat.reduceLeDiff, reduceCtorEq]
    (apply d_callx (spec11 _ ?s6201x1); (case hf => rfl); (case hq => (simp (maxSteps := 2000000) only [vm, reduceIte, Nat.reduceEqDiff]; rfl)); (case hvs => rfl); (case hL => (simp only [vm, R.toL, R1.toL, rcsToL, RC.toL, siteN, reduceIte, Nat.reduceAdd, Nat.reduceMul]; rfl)); (case hfr => (simp (maxSteps := 2000000) only [vm, vr, reduceIte, Nat.reduceEqDiff, reduceCtorEq]; try rfl)); (case s6201x1 => first | assumption | omega | (simp; done) | (simp; omega)))
    simp (maxSteps := 2000000) only [vm, vr, vp, q3, reduceIte, Nat.reduceEqDiff, Nat.reduceAdd, Nat.reduceLeDiff, reduceCtorEq]
    (apply d_callx (spec11 _ ?s6202x1); (case hf => rfl); (case hq => (simp (maxSteps := 2000000) only [vm, reduceIte, Nat.reduceEqDiff]; rfl)); (case hvs => rfl); (case hL => (simp only [vm, R.toL, R1.toL, rcsToL, RC.toL, siteN, reduceIte, Nat.reduceAdd, Nat.reduceMul]; rfl)); (case hfr => (simp (maxSteps := 2000000) only [vm, vr, reduceIte, Nat.reduceEqDiff, reduceCtorEq]; try rfl)); (case s6202x1 => first | assumption | omega | (simp; done) | (simp; omega)))
    simp (maxSteps := 2000000) only [vm, vr, vp, q3, reduceIte, Nat.reduceEqDiff, Nat.reduceAdd, Nat.reduceLeDiff, reduceCtorEq]
    refine need_by (by first | assumption | omega | (simp; done) | (simp; omega)) ?_
    refine need_by (by first | assumption | omega | (simp; done) | (simp; omega)) ?_
    (refine draw_ok (by decide +kernel) (hK _ ?_); clear hK; clear K)
    refine c_reg fun K hK => ?_
    simp (maxSteps := 2000000) only [vm, vr]
    (refine hK _ ?_; clear hK; clear K)
    refine c_assoc ?_
    refine c_reg fun K hK => ?_
    simp (maxSteps := 2000000) only [vm, vr]
    (refine hK _ ?_; clear hK; clear K)
    refine c_block ?_
    refine vcode_loop (fun i : Nat => [(1, L.p (nn g)), (4, L.p (V.b false)), (5, L.own 5 0), (7, L.own 7 0), (8, L.own 8 0), (9, L.p (V.b (allN' A i))), (10, L.p (nn i))]) (fun _ => [(Key.b 8, M.box 11), (Key.c 8 0, M.cell (L.p (nn r.width))), (Key.c 8 1, M.cell (L.p (nn r.start))), (Key.c 8 2, M.cell (L.p (nn r.finish))), (Key.c 8 3, M.cell (L.p (nn r.hlo))), (Key.c 8 4, M.cell (L.p (nn r.hhi))), (Key.c 8 5, M.cell (L.p (nn r.cold))), (Key.c 8 6, M.cell (L.arr 86 0)), (Key.c 8 7, M.cell (L.p (nn r.slo))), (Key.c 8 8, M.cell (L.p (nn r.shi))), (Key.c 8 9, M.cell (L.p (nn r.flo))), (Key.c 8 10, M.cell (L.p (nn r.fhi))), (Key.b 7, M.box 11), (Key.c 7 0, M.cell (L.p (nn r.width))), (Key.c 7 1, M.cell (L.p (nn r.start))), (Key.c 7 2, M.cell (L.p (nn r.finish))), (Key.c 7 3, M.cell (L.p (nn r.hlo))), (Key.c 7 4, M.cell (L.p (nn r.hhi))), (Key.c 7 5, M.cell (L.p (nn r.cold))), (Key.c 7 6, M.cell (L.arr 84 0)), (Key.c 7 7, M.cell (L.p (nn r.slo))), (Key.c 7 8, M.cell (L.p (nn r.shi))), (Key.c 7 9, M.cell (L.p (nn r.flo))), (Key.c 7 10, M.cell (L.p (nn r.fhi))), (Key.a 86, M.arr 0 44 5 (r.stands.map stdV)), (Key.a 84, M.arr 0 44 5 (r.stands.map stdV)), (Key.b 5, M.box 2), (Key.c 5 0, M.cell (L.p (nn k))), (Key.c 5 1, M.cell (L.p (V.sl (List.map nn A))))]) (fun i => i ≤ A.length) (fun i => A.length - i) 0 (Nat.zero_le _) ?_ ?_
    · (simp (maxSteps := 2000000) only [vm, vmk, reduceIte, Nat.reduceEqDiff, Nat.reduceAdd, Nat.reduceLT, reduceCtorEq]; try simp (disch := omega) only [wr64]; try omega)
      rfl
    · intro i hi
      rcases Nat.lt_or_ge i A.length with hil | hil
      · have kl : decide ((i : Int) < (A.length : Int)) = true := decide_eq_true (by omega)
        have hst := all_succ hil
        obtain ⟨v, hv⟩ : ∃ v, allN' A (i + 1) = v := ⟨_, rfl⟩
        cases c1 : allN' A i with
        | false =>
          rw [c1, Bool.false_and] at hst
          refine c_assoc ?_
          refine c_reg fun K hK => ?_
          simp (maxSteps := 2000000) only [vm, vr, q3, kl, reduceIte, Nat.reduceEqDiff, Nat.reduceAdd, Nat.reduceLeDiff, reduceCtorEq]
          (refine hK _ ?_; clear hK; clear K)
          refine c_if _ rfl (fun hb6 => ?_) (fun hb6 => ?_) <;> (have hp6 := hb6; try simp only [] at hp6)
          refine c_skip ?_
          refine c_block ?_
          refine c_reg1 fun K hK => ?_
          simp (maxSteps := 2000000) only [vm, vr, reduceIte, Nat.reduceEqDiff]
          (refine hK _ ?_; clear hK; clear K)
          simp only [thenV_n, blockV_n]
          refine c_reg1 fun K hK => ?_
          simp (maxSteps := 2000000) only [vm, vr, reduceIte, Nat.reduceEqDiff]
          (simp (disch := omega) only [wr64]; try simp (maxSteps := 2000000) only [vm, vr, vt, vp, q3, mapstd, kl, c1, hb1, hb2, hb3, hb4, hb5, hb6, Int.reduceBNe, Int.reduceBEq, Int.reduceLT, Int.reduceLE, Int.reduceGT, Int.reduceGE, decide_true, decide_false, bne_self_eq_false, beq_self_eq_true, reduceIte, Nat.reduceEqDiff, Nat.reduceAdd, Nat.reduceLeDiff, Nat.reduceMul, Nat.reduceLT, reduceCtorEq])
          (refine hK _ ?_; clear hK; clear K)
          simp only [thenV_n]
          rotate_left
          cases hb6
          refine ⟨i + 1, ?_, by omega, by omega⟩
          rw [hst]
          ((show Wk _ _ _; simp only [vm, vmk, reduceIte, Nat.reduceEqDiff, Nat.reduceAdd, Nat.reduceLT, reduceCtorEq]; (try simp (disch := omega) only [wr64]); try omega))
        | true =>
          rw [c1, Bool.true_and] at hst
          cases c2 : (A.getD i 0 == 0) with
          | true =>
            rw [c2, Bool.true_or] at hst
            refine c_assoc ?_
            refine c_reg fun K hK => ?_
            simp (maxSteps := 2000000) only [vm, vr, q3, kl, reduceIte, Nat.reduceEqDiff, Nat.reduceAdd, Nat.reduceLeDiff, reduceCtorEq]
            (refine hK _ ?_; clear hK; clear K)
            refine c_if _ rfl (fun hb6 => ?_) (fun hb6 => ?_) <;> (have hp6 := hb6; try simp only [] at hp6)
            refine c_skip ?_
            refine c_block ?_
            refine c_reg1 fun K hK => ?_
            simp (maxSteps := 2000000) only [vm, vr, q3, reduceIte, Nat.reduceEqDiff, Nat.reduceAdd, Nat.reduceLeDiff, reduceCtorEq]
            (refine atI_map 0 (by first | assumption | omega | (simp; done) | (simp; omega)) (by first | assumption | omega | (simp; done) | (simp; omega)) ?_; simp (maxSteps := 2000000) only [vm, vr, q3, c2])
            (refine hK _ ?_; clear hK; clear K)
            simp only [thenV_n, blockV_n]
            refine c_reg1 fun K hK => ?_
            simp (maxSteps := 2000000) only [vm, vr, reduceIte, Nat.reduceEqDiff]
            (simp (disch := omega) only [wr64]; try simp (maxSteps := 2000000) only [vm, vr, vt, vp, q3, mapstd, kl, c1, c2, hb1, hb2, hb3, hb4, hb5, hb6, Int.reduceBNe, Int.reduceBEq, Int.reduceLT, Int.reduceLE, Int.reduceGT, Int.reduceGE, decide_true, decide_false, bne_self_eq_false, beq_self_eq_true, reduceIte, Nat.reduceEqDiff, Nat.reduceAdd, Nat.reduceLeDiff, Nat.reduceMul, Nat.reduceLT, reduceCtorEq])
            (refine hK _ ?_; clear hK; clear K)
            simp only [thenV_n]
            rotate_left
            cases hb6
            refine ⟨i + 1, ?_, by omega, by omega⟩
            rw [hst]
            ((show Wk _ _ _; simp only [vm, vmk, reduceIte, Nat.reduceEqDiff, Nat.reduceAdd, Nat.reduceLT, reduceCtorEq]; (try simp (disch := omega) only [wr64]); try omega))
          | false =>
            rw [c2, Bool.false_or] at hst
            cases c3 : (A.getD i 0 == 1) with
            | true =>
              rw [c3] at hst
              refine c_assoc ?_
              refine c_reg fun K hK => ?_
              simp (maxSteps := 2000000) only [vm, vr, q3, kl, reduceIte, Nat.reduceEqDiff, Nat.reduceAdd, Nat.reduceLeDiff, reduceCtorEq]
              (refine hK _ ?_; clear hK; clear K)
              refine c_if _ rfl (fun hb6 => ?_) (fun hb6 => ?_) <;> (have hp6 := hb6; try simp only [] at hp6)
              refine c_skip ?_
              refine c_block ?_
              refine c_reg1 fun K hK => ?_
              simp (maxSteps := 2000000) only [vm, vr, q3, reduceIte, Nat.reduceEqDiff, Nat.reduceAdd, Nat.reduceLeDiff, reduceCtorEq]
              (refine atI_map 0 (by first | assumption | omega | (simp; done) | (simp; omega)) (by first | assumption | omega | (simp; done) | (simp; omega)) ?_; simp (maxSteps := 2000000) only [vm, vr, q3, c2, reduceIte, Nat.reduceEqDiff, Nat.reduceLeDiff, reduceCtorEq])
              (refine atI_map 0 (by first | assumption | omega | (simp; done) | (simp; omega)) (by first | assumption | omega | (simp; done) | (simp; omega)) ?_; simp (maxSteps := 2000000) only [vm, vr, q3, c3])
              (refine hK _ ?_; clear hK; clear K)
              simp only [thenV_n, blockV_n]
              refine c_reg1 fun K hK => ?_
              simp (maxSteps := 2000000) only [vm, vr, reduceIte, Nat.reduceEqDiff]
              (simp (disch := omega) only [wr64]; try simp (maxSteps := 2000000) only [vm, vr, vt, vp, q3, mapstd, kl, c1, c2, c3, hb1, hb2, hb3, hb4, hb5, hb6, Int.reduceBNe, Int.reduceBEq, Int.reduceLT, Int.reduceLE, Int.reduceGT, Int.reduceGE, decide_true, decide_false, bne_self_eq_false, beq_self_eq_true, reduceIte, Nat.reduceEqDiff, Nat.reduceAdd, Nat.reduceLeDiff, Nat.reduceMul, Nat.reduceLT, reduceCtorEq])
              (refine hK _ ?_; clear hK; clear K)
              simp only [thenV_n]
              rotate_left
              cases hb6
              refine ⟨i + 1, ?_, by omega, by omega⟩
              rw [hst]
              ((show Wk _ _ _; simp only [vm, vmk, reduceIte, Nat.reduceEqDiff, Nat.reduceAdd, Nat.reduceLT, reduceCtorEq]; (try simp (disch := omega) only [wr64]); try omega))
            | false =>
              rw [c3] at hst
              refine c_assoc ?_
              refine c_reg fun K hK => ?_
              simp (maxSteps := 2000000) only [vm, vr, q3, kl, reduceIte, Nat.reduceEqDiff, Nat.reduceAdd, Nat.reduceLeDiff, reduceCtorEq]
              (refine hK _ ?_; clear hK; clear K)
              refine c_if _ rfl (fun hb6 => ?_) (fun hb6 => ?_) <;> (have hp6 := hb6; try simp only [] at hp6)
              refine c_skip ?_
              refine c_block ?_
              refine c_reg1 fun K hK => ?_
              simp (maxSteps := 2000000) only [vm, vr, q3, reduceIte, Nat.reduceEqDiff, Nat.reduceAdd, Nat.reduceLeDiff, reduceCtorEq]
              (refine atI_map 0 (by first | assumption | omega | (simp; done) | (simp; omega)) (by first | assumption | omega | (simp; done) | (simp; omega)) ?_; simp (maxSteps := 2000000) only [vm, vr, q3, c2, reduceIte, Nat.reduceEqDiff, Nat.reduceLeDiff, reduceCtorEq])
              (refine atI_map 0 (by first | assumption | omega | (simp; done) | (simp; omega)) (by first | assumption | omega | (simp; done) | (simp; omega)) ?_; simp (maxSteps := 2000000) only [vm, vr, q3, c3])
              (refine hK _ ?_; clear hK; clear K)
              simp only [thenV_n, blockV_n]
              refine c_reg1 fun K hK => ?_
              simp (maxSteps := 2000000) only [vm, vr, reduceIte, Nat.reduceEqDiff]
              (simp (disch := omega) only [wr64]; try simp (maxSteps := 2000000) only [vm, vr, vt, vp, q3, mapstd, kl, c1, c2, c3, hb1, hb2, hb3, hb4, hb5, hb6, Int.reduceBNe, Int.reduceBEq, Int.reduceLT, Int.reduceLE, Int.reduceGT, Int.reduceGE, decide_true, decide_false, bne_self_eq_false, beq_self_eq_true, reduceIte, Nat.reduceEqDiff, Nat.reduceAdd, Nat.reduceLeDiff, Nat.reduceMul, Nat.reduceLT, reduceCtorEq])
              (refine hK _ ?_; clear hK; clear K)
              simp only [thenV_n]
              rotate_left
              cases hb6
              refine ⟨i + 1, ?_, by omega, by omega⟩
              rw [hst]
              ((show Wk _ _ _; simp only [vm, vmk, reduceIte, Nat.reduceEqDiff, Nat.reduceAdd, Nat.reduceLT, reduceCtorEq]; (try simp (disch := omega) only [wr64]); try omega))
      · have kl : decide ((i : Int) < (A.length : Int)) = false := decide_eq_false_iff_not.2 (by omega)
        have hie : i = A.length := by omega
        subst hie
        rw [all_end]
        have hx : ∀ v : V, ((List.map stdV r.stands).set k v)[k]? = some v := fun v => by
          rw [List.getElem?_set_self (by rw [List.length_map]; exact hkl)]
        cases f with
        | true =>
          cases t with
          | true =>
            have ho2 := go true true _ rfl
            rw [show rulV (lifR r k true true) = .agg [nn r.width, nn r.start, nn r.finish, nn r.hlo, nn r.hhi, nn r.cold, .sl ((lifR r k true true).stands.map stdV), nn r.slo, nn r.shi, nn r.flo, nn r.fhi] from rfl, lif_std] at ho2
            generalize hO : blockAt (lifR r k true true) (gridL r g) 0 r.stands.length = o at ho2
            cases o with
            | none =>
              have hs10w2 : Sp0 10 [.agg [nn r.width, nn r.start, nn r.finish, nn r.hlo, nn r.hhi, nn r.cold, .sl ((r.stands.map stdV).set k (.agg [nn (r.stands.getD k default).rad, nn 1000000000000, nn 1000000000000, nn (r.stands.getD k default).llo, nn (r.stands.getD k default).lhi])), nn r.slo, nn r.shi, nn r.flo, nn r.fhi], nn g] (R.v2 (.agg [nn 0, .sl []]) (nn 12)) := ho2
              clear ho2
              refine c_assoc ?_
              refine c_reg fun K hK => ?_
              simp (maxSteps := 2000000) only [vm, vr, q3, kl, reduceIte, Nat.reduceEqDiff, Nat.reduceAdd, Nat.reduceLeDiff, reduceCtorEq]
              (refine hK _ ?_; clear hK; clear K)
              refine c_if _ rfl (fun hb6 => ?_) (fun hb6 => ?_) <;> (have hp6 := hb6; try simp only [] at hp6)
              cases hb6
              refine c_exit ?_
              simp only [thenV_n, thenV_e, blockV_e, reduceIte]
              refine c_assoc ?_
              refine c_reg fun K hK => ?_
              simp (maxSteps := 2000000) only [vm, vr, q3, reduceIte, Nat.reduceEqDiff, Nat.reduceAdd, Nat.reduceLeDiff, reduceCtorEq]
              (apply s_call (spec13 _ _ ?s11801x1); (case hf => rfl); (case hq => (simp (maxSteps := 2000000) only [vm, reduceIte, Nat.reduceEqDiff]; rfl)); (case hvs => rfl); (case s11801x1 => first | assumption | omega | (simp; done) | (simp; omega)))
              simp (maxSteps := 2000000) only [vm, vr, hf]
              (refine hK _ ?_; clear hK; clear K)
              refine c_if _ rfl (fun hb7 => ?_) (fun hb7 => ?_) <;> (have hp7 := hb7; try simp only [] at hp7)
              refine c_reg fun K hK => ?_
              simp (maxSteps := 2000000) only [vm, vr, q3, reduceIte, Nat.reduceEqDiff, Nat.reduceAdd, Nat.reduceLeDiff, reduceCtorEq]
              refine need_by (by first | assumption | omega | (simp; done) | (simp; omega)) ?_
              (refine want_map default (by first | assumption | omega | (simp; done) | (simp; omega)) ?_; simp (maxSteps := 2000000) only [vm, vr, Nat.reduceAdd, Nat.reduceLeDiff])
              (refine hK _ ?_; clear hK; clear K)
              refine c_assoc ?_
              refine c_reg fun K hK => ?_
              simp (maxSteps := 2000000) only [vm, vr, q3, reduceIte, Nat.reduceEqDiff, Nat.reduceAdd, Nat.reduceLeDiff, reduceCtorEq]
              (apply s_call (spec13 _ _ ?s11802x1); (case hf => rfl); (case hq => (simp (maxSteps := 2000000) only [vm, reduceIte, Nat.reduceEqDiff]; rfl)); (case hvs => rfl); (case s11802x1 => first | assumption | omega | (simp; done) | (simp; omega)))
              simp (maxSteps := 2000000) only [vm, vr, ht]
              (refine hK _ ?_; clear hK; clear K)
              refine c_if _ rfl (fun hb8 => ?_) (fun hb8 => ?_) <;> (have hp8 := hb8; try simp only [] at hp8)
              refine c_reg fun K hK => ?_
              simp (maxSteps := 2000000) only [vm, vr, vt, q3, hx, List.set_set, reduceIte, Nat.reduceEqDiff, Nat.reduceAdd, Nat.reduceLeDiff, reduceCtorEq]
              refine need_by (by first | assumption | omega | (simp; done) | (simp; omega)) ?_
              (refine hK _ ?_; clear hK; clear K)
              refine c_assoc ?_
              refine c_reg fun K hK => ?_
              simp (maxSteps := 2000000) only [vm, vr, vp, q3, reduceIte, Nat.reduceEqDiff, Nat.reduceAdd, Nat.reduceLeDiff, reduceCtorEq]
              (apply s_call2 (hs10); (case hf => rfl); (case hq => (simp (maxSteps := 2000000) only [vm, vr, reduceIte, Nat.reduceEqDiff, reduceCtorEq]; rfl)); (case hvs => rfl))
              simp (maxSteps := 2000000) only [vm, vr, q3, reduceIte, Nat.reduceEqDiff, Nat.reduceAdd, Nat.reduceLeDiff, reduceCtorEq]
              refine need_by (by first | assumption | omega | (simp; done) | (simp; omega)) ?_
              (refine hK _ ?_; clear hK; clear K)
              refine c_assoc ?_
              refine c_reg fun K hK => ?_
              simp (maxSteps := 2000000) only [vm, vr, q3, bne_self_eq_false, reduceIte, Nat.reduceEqDiff, Nat.reduceLeDiff, reduceCtorEq]
              (refine hK _ ?_; clear hK; clear K)
              refine c_if _ rfl (fun hb9 => ?_) (fun hb9 => ?_) <;> (have hp9 := hb9; try simp only [] at hp9)
              cases hb9
              refine c_skip ?_
              refine c_reg fun K hK => ?_
              simp (maxSteps := 2000000) only [vm, vr, vp, q3, reduceIte, Nat.reduceEqDiff, Nat.reduceAdd, Nat.reduceLeDiff, reduceCtorEq]
              (apply s_call2 (hs10w2); (case hf => rfl); (case hq => (simp (maxSteps := 2000000) only [vm, vr, reduceIte, Nat.reduceEqDiff, reduceCtorEq]; rfl)); (case hvs => rfl))
              simp (maxSteps := 2000000) only [vm, vr, q3, reduceIte, Nat.reduceEqDiff, Nat.reduceAdd, Nat.reduceLeDiff, reduceCtorEq]
              refine need_by (by first | assumption | omega | (simp; done) | (simp; omega)) ?_
              (refine hK _ ?_; clear hK; clear K)
              refine c_assoc ?_
              refine c_reg fun K hK => ?_
              simp (maxSteps := 2000000) only [vm, vr, Int.reduceBNe, reduceIte, Nat.reduceEqDiff]
              (refine hK _ ?_; clear hK; clear K)
              refine c_if _ rfl (fun hb10 => ?_) (fun hb10 => ?_) <;> (have hp10 := hb10; try simp only [] at hp10)
              refine c_assoc ?_
              refine c_reg fun K hK => ?_
              simp (maxSteps := 2000000) only [vm, vr, beq_self_eq_true, reduceIte, Nat.reduceEqDiff]
              (refine hK _ ?_; clear hK; clear K)
              refine c_ret ?_
              simp (maxSteps := 2000000) only [vm, vr, reduceIte, Nat.reduceEqDiff]
              cases hb10
              cases hb8
              cases hb7
            | some q =>
              obtain ⟨k2, S3⟩ := q
              have hs10w2 : Sp0 10 [.agg [nn r.width, nn r.start, nn r.finish, nn r.hlo, nn r.hhi, nn r.cold, .sl ((r.stands.map stdV).set k (.agg [nn (r.stands.getD k default).rad, nn 1000000000000, nn 1000000000000, nn (r.stands.getD k default).llo, nn (r.stands.getD k default).lhi])), nn r.slo, nn r.shi, nn r.flo, nn r.fhi], nn g] (R.v2 (.agg [nn k2, .sl ((cI S3).map nn)]) (nn 0)) := ho2
              clear ho2
              have hC := hlen _ _ _ _ hO
              have hfi : k2 = k → allV A = true → ∀ i, i < (cI S3).length → (A.any fun x => x == (cI S3).getD i 0) = false := fun e ha => hfin S3 (by rw [hO, e]) ha
              generalize cI S3 = C at *
              refine c_assoc ?_
              refine c_reg fun K hK => ?_
              simp (maxSteps := 2000000) only [vm, vr, q3, kl, reduceIte, Nat.reduceEqDiff, Nat.reduceAdd, Nat.reduceLeDiff, reduceCtorEq]
              (refine hK _ ?_; clear hK; clear K)
              refine c_if _ rfl (fun hb6 => ?_) (fun hb6 => ?_) <;> (have hp6 := hb6; try simp only [] at hp6)
              cases hb6
              refine c_exit ?_
              simp only [thenV_n, thenV_e, blockV_e, reduceIte]
              refine c_assoc ?_
              refine c_reg fun K hK => ?_
              simp (maxSteps := 2000000) only [vm, vr, q3, reduceIte, Nat.reduceEqDiff, Nat.reduceAdd, Nat.reduceLeDiff, reduceCtorEq]
              (apply s_call (spec13 _ _ ?s12601x1); (case hf => rfl); (case hq => (simp (maxSteps := 2000000) only [vm, reduceIte, Nat.reduceEqDiff]; rfl)); (case hvs => rfl); (case s12601x1 => first | assumption | omega | (simp; done) | (simp; omega)))
              simp (maxSteps := 2000000) only [vm, vr, hf]
              (refine hK _ ?_; clear hK; clear K)
              refine c_if _ rfl (fun hb7 => ?_) (fun hb7 => ?_) <;> (have hp7 := hb7; try simp only [] at hp7)
              refine c_reg fun K hK => ?_
              simp (maxSteps := 2000000) only [vm, vr, q3, reduceIte, Nat.reduceEqDiff, Nat.reduceAdd, Nat.reduceLeDiff, reduceCtorEq]
              refine need_by (by first | assumption | omega | (simp; done) | (simp; omega)) ?_
              (refine want_map default (by first | assumption | omega | (simp; done) | (simp; omega)) ?_; simp (maxSteps := 2000000) only [vm, vr, Nat.reduceAdd, Nat.reduceLeDiff])
              (refine hK _ ?_; clear hK; clear K)
              refine c_assoc ?_
              refine c_reg fun K hK => ?_
              simp (maxSteps := 2000000) only [vm, vr, q3, reduceIte, Nat.reduceEqDiff, Nat.reduceAdd, Nat.reduceLeDiff, reduceCtorEq]
              (apply s_call (spec13 _ _ ?s12602x1); (case hf => rfl); (case hq => (simp (maxSteps := 2000000) only [vm, reduceIte, Nat.reduceEqDiff]; rfl)); (case hvs => rfl); (case s12602x1 => first | assumption | omega | (simp; done) | (simp; omega)))
              simp (maxSteps := 2000000) only [vm, vr, ht]
              (refine hK _ ?_; clear hK; clear K)
              refine c_if _ rfl (fun hb8 => ?_) (fun hb8 => ?_) <;> (have hp8 := hb8; try simp only [] at hp8)
              refine c_reg fun K hK => ?_
              simp (maxSteps := 2000000) only [vm, vr, vt, q3, hx, List.set_set, reduceIte, Nat.reduceEqDiff, Nat.reduceAdd, Nat.reduceLeDiff, reduceCtorEq]
              refine need_by (by first | assumption | omega | (simp; done) | (simp; omega)) ?_
              (refine hK _ ?_; clear hK; clear K)
              refine c_assoc ?_
              refine c_reg fun K hK => ?_
              simp (maxSteps := 2000000) only [vm, vr, vp, q3, reduceIte, Nat.reduceEqDiff, Nat.reduceAdd, Nat.reduceLeDiff, reduceCtorEq]
              (apply s_call2 (hs10); (case hf => rfl); (case hq => (simp (maxSteps := 2000000) only [vm, vr, reduceIte, Nat.reduceEqDiff, reduceCtorEq]; rfl)); (case hvs => rfl))
              simp (maxSteps := 2000000) only [vm, vr, q3, reduceIte, Nat.reduceEqDiff, Nat.reduceAdd, Nat.reduceLeDiff, reduceCtorEq]
              refine need_by (by first | assumption | omega | (simp; done) | (simp; omega)) ?_
              (refine hK _ ?_; clear hK; clear K)
              refine c_assoc ?_
              refine c_reg fun K hK => ?_
              simp (maxSteps := 2000000) only [vm, vr, q3, bne_self_eq_false, reduceIte, Nat.reduceEqDiff, Nat.reduceLeDiff, reduceCtorEq]
              (refine hK _ ?_; clear hK; clear K)
              refine c_if _ rfl (fun hb9 => ?_) (fun hb9 => ?_) <;> (have hp9 := hb9; try simp only [] at hp9)
              cases hb9
              refine c_skip ?_
              refine c_reg fun K hK => ?_
              simp (maxSteps := 2000000) only [vm, vr, vp, q3, reduceIte, Nat.reduceEqDiff, Nat.reduceAdd, Nat.reduceLeDiff, reduceCtorEq]
              (apply s_call2 (hs10w2); (case hf => rfl); (case hq => (simp (maxSteps := 2000000) only [vm, vr, reduceIte, Nat.reduceEqDiff, reduceCtorEq]; rfl)); (case hvs => rfl))
              simp (maxSteps := 2000000) only [vm, vr, q3, reduceIte, Nat.reduceEqDiff, Nat.reduceAdd, Nat.reduceLeDiff, reduceCtorEq]
              refine need_by (by first | assumption | omega | (simp; done) | (simp; omega)) ?_
              (refine hK _ ?_; clear hK; clear K)
              refine c_assoc ?_
              refine c_reg fun K hK => ?_
              simp (maxSteps := 2000000) only [vm, vr, bne_self_eq_false, reduceIte, Nat.reduceEqDiff]
              (refine hK _ ?_; clear hK; clear K)
              refine c_if _ rfl (fun hb10 => ?_) (fun hb10 => ?_) <;> (have hp10 := hb10; try simp only [] at hp10)
              cases hb10
              refine c_skip ?_
              refine c_assoc ?_
              refine c_reg fun K hK => ?_
              simp (maxSteps := 2000000) only [vm, vr]
              (refine hK _ ?_; clear hK; clear K)
              refine c_block ?_
              rotate_left
              cases hb8
              cases hb7
              refine vcode_loop (fun i : Nat => [(4, L.p (V.b false)), (5, L.own 5 0), (9, L.p (V.b (allV A))), (13, L.own 13 0), (15, L.p (nn i))]) (fun _ => [(Key.b 13, M.box 2), (Key.c 13 0, M.cell (L.p (nn k2))), (Key.c 13 1, M.cell (L.p (V.sl (List.map nn C)))), (Key.b 5, M.box 2), (Key.c 5 0, M.cell (L.p (nn k))), (Key.c 5 1, M.cell (L.p (V.sl (List.map nn A))))]) (fun i => i ≤ C.length) (fun i => C.length - i) 0 (Nat.zero_le _) ?_ ?_
              · simp (maxSteps := 2000000) only [vm, vmk, reduceIte, Nat.reduceEqDiff, Nat.reduceAdd, Nat.reduceLT, reduceCtorEq]
              · intro i hi
                rcases Nat.lt_or_ge i C.length with hil | hil
                · have km : decide ((i : Int) < (C.length : Int)) = true := decide_eq_true (by omega)
                  cases e1 : ((k2 : Int) == (k : Int)) with
                  | false =>
                    refine c_assoc ?_
                    refine c_reg fun K hK => ?_
                    simp (maxSteps := 2000000) only [vm, vr, q3, km, reduceIte, Nat.reduceEqDiff, Nat.reduceAdd, Nat.reduceLeDiff, reduceCtorEq]
                    (refine hK _ ?_; clear hK; clear K)
                    refine c_if _ rfl (fun hb11 => ?_) (fun hb11 => ?_) <;> (have hp11 := hb11; try simp only [] at hp11)
                    refine c_skip ?_
                    refine c_block ?_
                    refine c_draw fun K hK => ?_
                    refine d_one fun K hK => ?_
                    simp (maxSteps := 2000000) only [vm, q3, vw, reduceIte, Nat.reduceEqDiff, Nat.reduceLeDiff, reduceCtorEq]
                    (refine hK _ ?_; clear hK; clear K)
                    refine d_one fun K hK => ?_
                    simp (maxSteps := 2000000) only [vm, vr, q3, vw, reduceIte, Nat.reduceEqDiff, Nat.reduceLeDiff, reduceCtorEq]
                    (refine hK _ ?_; clear hK; clear K)
                    refine d_one fun K hK => ?_
                    simp (maxSteps := 2000000) only [vm, vr, q3, vw, reduceIte, Nat.reduceEqDiff, Nat.reduceLeDiff, reduceCtorEq]
                    (refine hK _ ?_; clear hK; clear K)
                    refine d_one fun K hK => ?_
                    simp (maxSteps := 2000000) only [vm, vr, q3, vw, reduceIte, Nat.reduceEqDiff, Nat.reduceLeDiff, reduceCtorEq]
                    (refine hK _ ?_; clear hK; clear K)
                    refine d_one fun K hK => ?_
                    simp (maxSteps := 2000000) only [vm, vr, e1, vw, reduceIte, Nat.reduceEqDiff]
                    (refine hK _ ?_; clear hK; clear K)
                    refine d_one fun K hK => ?_
                    simp (maxSteps := 2000000) only [vm, vr, vw, reduceIte, Nat.reduceEqDiff]
                    (refine hK _ ?_; clear hK; clear K)
                    refine d_oneg fun K hK => ?_
                    simp (maxSteps := 2000000) only [vm, vr, reduceIte, Nat.reduceEqDiff]
                    (refine hK _ ?_; clear hK; clear K)
                    refine d_one fun K hK => ?_
                    simp (maxSteps := 2000000) only [vm, vr, vw, reduceIte, Nat.reduceEqDiff]
                    (refine hK _ ?_; clear hK; clear K)
                    refine d_one fun K hK => ?_
                    simp (maxSteps := 2000000) only [vm, vr, vw, reduceIte, Nat.reduceEqDiff]
                    (refine hK _ ?_; clear hK; clear K)
                    refine d_oneg fun K hK => ?_
                    simp (maxSteps := 2000000) only [vm, vr, reduceIte, Nat.reduceEqDiff]
                    (refine hK _ ?_; clear hK; clear K)
                    refine d_oneg fun K hK => ?_
                    simp (maxSteps := 2000000) only [vm, vr, reduceIte, Nat.reduceEqDiff]
                    (refine hK _ ?_; clear hK; clear K)
                    refine d_oneg fun K hK => ?_
                    simp (maxSteps := 2000000) only [vm, vr, reduceIte, Nat.reduceEqDiff]
                    (refine hK _ ?_; clear hK; clear K)
                    refine d_oneg fun K hK => ?_
                    simp (maxSteps := 2000000) only [vm, vr, reduceIte, Nat.reduceEqDiff]
                    (refine hK _ ?_; clear hK; clear K)
                    refine d_oneg fun K hK => ?_
                    simp (maxSteps := 2000000) only [vm, vr, reduceIte, Nat.reduceEqDiff]
                    (refine hK _ ?_; clear hK; clear K)
                    simp (maxSteps := 2000000) only [vm, vr, reduceIte, Nat.reduceEqDiff]
                    (refine draw_ok (by decide +kernel) (hK _ ?_); clear hK; clear K)
                    refine vcode_if _ rfl (fun hb12 => ?_) (fun hb12 => ?_) <;> (have hp12 := hb12; try simp only [] at hp12)
                    cases hb12
                    refine c_skip1 ?_
                    simp only [thenV_n, blockV_n]
                    refine c_reg1 fun K hK => ?_
                    simp (maxSteps := 2000000) only [vm, vr, reduceIte, Nat.reduceEqDiff]
                    (simp (disch := omega) only [wr64]; try simp (maxSteps := 2000000) only [vm, vr, vt, vp, q3, mapstd, km, e1, hb1, hb2, hb3, hb4, hb5, hb6, hb7, hb8, hb9, hb10, hb11, hb12, Int.reduceBNe, Int.reduceBEq, Int.reduceLT, Int.reduceLE, Int.reduceGT, Int.reduceGE, decide_true, decide_false, bne_self_eq_false, beq_self_eq_true, reduceIte, Nat.reduceEqDiff, Nat.reduceAdd, Nat.reduceLeDiff, Nat.reduceMul, Nat.reduceLT, reduceCtorEq])
                    (refine hK _ ?_; clear hK; clear K)
                    simp only [thenV_n]
                    rotate_left
                    cases hb11
                    refine ⟨i + 1, ?_, by omega, by omega⟩
                    ((show Wk _ _ _; simp only [vm, vmk, reduceIte, Nat.reduceEqDiff, Nat.reduceAdd, Nat.reduceLT, reduceCtorEq]; (try simp (disch := omega) only [wr64]); try omega))
                  | true =>
                    cases e2 : allV A with
                    | false =>
                      refine c_assoc ?_
                      refine c_reg fun K hK => ?_
                      simp (maxSteps := 2000000) only [vm, vr, q3, km, reduceIte, Nat.reduceEqDiff, Nat.reduceAdd, Nat.reduceLeDiff, reduceCtorEq]
                      (refine hK _ ?_; clear hK; clear K)
                      refine c_if _ rfl (fun hb11 => ?_) (fun hb11 => ?_) <;> (have hp11 := hb11; try simp only [] at hp11)
                      refine c_skip ?_
                      refine c_block ?_
                      refine c_draw fun K hK => ?_
                      refine d_one fun K hK => ?_
                      simp (maxSteps := 2000000) only [vm, q3, vw, reduceIte, Nat.reduceEqDiff, Nat.reduceLeDiff, reduceCtorEq]
                      (refine hK _ ?_; clear hK; clear K)
                      refine d_one fun K hK => ?_
                      simp (maxSteps := 2000000) only [vm, vr, q3, vw, reduceIte, Nat.reduceEqDiff, Nat.reduceLeDiff, reduceCtorEq]
                      (refine hK _ ?_; clear hK; clear K)
                      refine d_one fun K hK => ?_
                      simp (maxSteps := 2000000) only [vm, vr, q3, vw, reduceIte, Nat.reduceEqDiff, Nat.reduceLeDiff, reduceCtorEq]
                      (refine hK _ ?_; clear hK; clear K)
                      refine d_one fun K hK => ?_
                      simp (maxSteps := 2000000) only [vm, vr, q3, vw, reduceIte, Nat.reduceEqDiff, Nat.reduceLeDiff, reduceCtorEq]
                      (refine hK _ ?_; clear hK; clear K)
                      refine d_one fun K hK => ?_
                      simp (maxSteps := 2000000) only [vm, vr, e1, vw, reduceIte, Nat.reduceEqDiff]
                      (refine hK _ ?_; clear hK; clear K)
                      refine d_one fun K hK => ?_
                      simp (maxSteps := 2000000) only [vm, vr, vw, reduceIte, Nat.reduceEqDiff]
                      (refine hK _ ?_; clear hK; clear K)
                      refine d_oneg fun K hK => ?_
                      simp (maxSteps := 2000000) only [vm, vr, reduceIte, Nat.reduceEqDiff]
                      simp (maxSteps := 2000000) only [vm, vw, reduceIte, Nat.reduceEqDiff]
                      (refine hK _ ?_; clear hK; clear K)
                      refine d_one fun K hK => ?_
                      simp (maxSteps := 2000000) only [vm, vr, vw, reduceIte, Nat.reduceEqDiff]
                      (refine hK _ ?_; clear hK; clear K)
                      refine d_one fun K hK => ?_
                      simp (maxSteps := 2000000) only [vm, vr, vw, reduceIte, Nat.reduceEqDiff]
                      (refine hK _ ?_; clear hK; clear K)
                      refine d_oneg fun K hK => ?_
                      simp (maxSteps := 2000000) only [vm, vr, reduceIte, Nat.reduceEqDiff]
                      (refine hK _ ?_; clear hK; clear K)
                      refine d_oneg fun K hK => ?_
                      simp (maxSteps := 2000000) only [vm, vr, reduceIte, Nat.reduceEqDiff]
                      (refine hK _ ?_; clear hK; clear K)
                      refine d_oneg fun K hK => ?_
                      simp (maxSteps := 2000000) only [vm, vr, reduceIte, Nat.reduceEqDiff]
                      (refine hK _ ?_; clear hK; clear K)
                      refine d_oneg fun K hK => ?_
                      simp (maxSteps := 2000000) only [vm, vr, reduceIte, Nat.reduceEqDiff]
                      (refine hK _ ?_; clear hK; clear K)
                      refine d_oneg fun K hK => ?_
                      simp (maxSteps := 2000000) only [vm, vr, reduceIte, Nat.reduceEqDiff]
                      (refine hK _ ?_; clear hK; clear K)
                      simp (maxSteps := 2000000) only [vm, vr, reduceIte, Nat.reduceEqDiff]
                      (refine draw_ok (by decide +kernel) (hK _ ?_); clear hK; clear K)
                      refine vcode_if _ rfl (fun hb12 => ?_) (fun hb12 => ?_) <;> (have hp12 := hb12; try simp only [] at hp12)
                      cases hb12
                      refine c_skip1 ?_
                      simp only [thenV_n, blockV_n]
                      refine c_reg1 fun K hK => ?_
                      simp (maxSteps := 2000000) only [vm, vr, reduceIte, Nat.reduceEqDiff]
                      (simp (disch := omega) only [wr64]; try simp (maxSteps := 2000000) only [vm, vr, vt, vp, q3, mapstd, km, e1, e2, hb1, hb2, hb3, hb4, hb5, hb6, hb7, hb8, hb9, hb10, hb11, hb12, Int.reduceBNe, Int.reduceBEq, Int.reduceLT, Int.reduceLE, Int.reduceGT, Int.reduceGE, decide_true, decide_false, bne_self_eq_false, beq_self_eq_true, reduceIte, Nat.reduceEqDiff, Nat.reduceAdd, Nat.reduceLeDiff, Nat.reduceMul, Nat.reduceLT, reduceCtorEq])
                      (refine hK _ ?_; clear hK; clear K)
                      simp only [thenV_n]
                      rotate_left
                      cases hb11
                      refine ⟨i + 1, ?_, by omega, by omega⟩
                      ((show Wk _ _ _; simp only [vm, vmk, reduceIte, Nat.reduceEqDiff, Nat.reduceAdd, Nat.reduceLT, reduceCtorEq]; (try simp (disch := omega) only [wr64]); try omega))
                    | true =>
                      have e3 := hfi (by have := beq_iff_eq.1 e1; omega) e2 i hil
                      refine c_assoc ?_
                      refine c_reg fun K hK => ?_
                      simp (maxSteps := 2000000) only [vm, vr, q3, km, reduceIte, Nat.reduceEqDiff, Nat.reduceAdd, Nat.reduceLeDiff, reduceCtorEq]
                      (refine hK _ ?_; clear hK; clear K)
                      refine c_if _ rfl (fun hb11 => ?_) (fun hb11 => ?_) <;> (have hp11 := hb11; try simp only [] at hp11)
                      refine c_skip ?_
                      refine c_block ?_
                      refine c_draw fun K hK => ?_
                      refine d_one fun K hK => ?_
                      simp (maxSteps := 2000000) only [vm, q3, vw, reduceIte, Nat.reduceEqDiff, Nat.reduceLeDiff, reduceCtorEq]
                      (refine hK _ ?_; clear hK; clear K)
                      refine d_one fun K hK => ?_
                      simp (maxSteps := 2000000) only [vm, vr, q3, vw, reduceIte, Nat.reduceEqDiff, Nat.reduceLeDiff, reduceCtorEq]
                      (refine hK _ ?_; clear hK; clear K)
                      refine d_one fun K hK => ?_
                      simp (maxSteps := 2000000) only [vm, vr, q3, vw, reduceIte, Nat.reduceEqDiff, Nat.reduceLeDiff, reduceCtorEq]
                      (refine hK _ ?_; clear hK; clear K)
                      refine d_one fun K hK => ?_
                      simp (maxSteps := 2000000) only [vm, vr, q3, vw, reduceIte, Nat.reduceEqDiff, Nat.reduceLeDiff, reduceCtorEq]
                      (refine hK _ ?_; clear hK; clear K)
                      refine d_one fun K hK => ?_
                      simp (maxSteps := 2000000) only [vm, vr, e1, vw, reduceIte, Nat.reduceEqDiff]
                      (refine hK _ ?_; clear hK; clear K)
                      refine d_one fun K hK => ?_
                      simp (maxSteps := 2000000) only [vm, vr, vw, reduceIte, Nat.reduceEqDiff]
                      (refine hK _ ?_; clear hK; clear K)
                      refine d_oneg fun K hK => ?_
                      simp (maxSteps := 2000000) only [vm, vr, reduceIte, Nat.reduceEqDiff]
                      simp (maxSteps := 2000000) only [vm, vw, reduceIte, Nat.reduceEqDiff]
                      (refine hK _ ?_; clear hK; clear K)
                      refine d_one fun K hK => ?_
                      simp (maxSteps := 2000000) only [vm, vr, vw, reduceIte, Nat.reduceEqDiff]
                      (refine hK _ ?_; clear hK; clear K)
                      refine d_one fun K hK => ?_
                      simp (maxSteps := 2000000) only [vm, vr, vw, reduceIte, Nat.reduceEqDiff]
                      (refine hK _ ?_; clear hK; clear K)
                      refine d_oneg fun K hK => ?_
                      simp (maxSteps := 2000000) only [vm, vr, reduceIte, Nat.reduceEqDiff]
                      simp (maxSteps := 2000000) only [vm, q3, vw, reduceIte, Nat.reduceEqDiff, Nat.reduceAdd, Nat.reduceLeDiff, reduceCtorEq]
                      (refine hK _ ?_; clear hK; clear K)
                      refine d_oneg fun K hK => ?_
                      simp (maxSteps := 2000000) only [vm, vr, reduceIte, Nat.reduceEqDiff]
                      simp (maxSteps := 2000000) only [vm, q3, vw, reduceIte, Nat.reduceEqDiff, Nat.reduceAdd, Nat.reduceLeDiff, reduceCtorEq]
                      (refine hK _ ?_; clear hK; clear K)
                      refine d_oneg fun K hK => ?_
                      simp (maxSteps := 2000000) only [vm, vr, reduceIte, Nat.reduceEqDiff]
                      simp (maxSteps := 2000000) only [vm, q3, vw, reduceIte, Nat.reduceEqDiff, Nat.reduceAdd, Nat.reduceLeDiff, reduceCtorEq]
                      (refine hK _ ?_; clear hK; clear K)
                      refine d_oneg fun K hK => ?_
                      simp (maxSteps := 2000000) only [vm, vr, reduceIte, Nat.reduceEqDiff]
                      simp (maxSteps := 2000000) only [vm, q3, vw, reduceIte, Nat.reduceEqDiff, Nat.reduceAdd, Nat.reduceLeDiff, reduceCtorEq]
                      (refine hK _ ?_; clear hK; clear K)
                      refine d_oneg fun K hK => ?_
                      simp (maxSteps := 2000000) only [vm, vr, reduceIte, Nat.reduceEqDiff]
                      simp (maxSteps := 2000000) only [vm, vw, reduceIte, Nat.reduceEqDiff]
                      (refine hK _ ?_; clear hK; clear K)
                      simp (maxSteps := 2000000) only [vm, vr, q3, reduceIte, Nat.reduceEqDiff]
                      (refine atI_map 0 (by first | assumption | omega | (simp; done) | (simp; omega)) (by first | assumption | omega | (simp; done) | (simp; omega)) ?_; simp (maxSteps := 2000000) only [vm, vr, q3])
                      (apply d_call (spec13 _ _ ?s14501x1); (case hf => rfl); (case hq => (simp (maxSteps := 2000000) only [vm, reduceIte, Nat.reduceEqDiff]; rfl)); (case hvs => rfl); (case s14501x1 => first | assumption | omega | (simp; done) | (simp; omega)))
                      simp (maxSteps := 2000000) only [vm, vr, e3, reduceIte, Nat.reduceEqDiff]
                      (refine draw_ok (by decide +kernel) (hK _ ?_); clear hK; clear K)
                      refine vcode_if _ rfl (fun hb12 => ?_) (fun hb12 => ?_) <;> (have hp12 := hb12; try simp only [] at hp12)
                      cases hb12
                      refine c_skip1 ?_
                      simp only [thenV_n, blockV_n]
                      refine c_reg1 fun K hK => ?_
                      simp (maxSteps := 2000000) only [vm, vr, reduceIte, Nat.reduceEqDiff]
                      (simp (disch := omega) only [wr64]; try simp (maxSteps := 2000000) only [vm, vr, vt, vp, q3, mapstd, km, e1, e2, e3, hb1, hb2, hb3, hb4, hb5, hb6, hb7, hb8, hb9, hb10, hb11, hb12, Int.reduceBNe, Int.reduceBEq, Int.reduceLT, Int.reduceLE, Int.reduceGT, Int.reduceGE, decide_true, decide_false, bne_self_eq_false, beq_self_eq_true, reduceIte, Nat.reduceEqDiff, Nat.reduceAdd, Nat.reduceLeDiff, Nat.reduceMul, Nat.reduceLT, reduceCtorEq])
                      (refine hK _ ?_; clear hK; clear K)
                      simp only [thenV_n]
                      rotate_left
                      cases hb11
                      refine ⟨i + 1, ?_, by omega, by omega⟩
                      ((show Wk _ _ _; simp only [vm, vmk, reduceIte, Nat.reduceEqDiff, Nat.reduceAdd, Nat.reduceLT, reduceCtorEq]; (try simp (disch := omega) only [wr64]); try omega))
                · have km : decide ((i : Int) < (C.length : Int)) = false := decide_eq_false_iff_not.2 (by omega)
                  refine c_assoc ?_
                  refine c_reg fun K hK => ?_
                  simp (maxSteps := 2000000) only [vm, vr, q3, km, reduceIte, Nat.reduceEqDiff, Nat.reduceAdd, Nat.reduceLeDiff, reduceCtorEq]
                  (refine hK _ ?_; clear hK; clear K)
                  refine c_if _ rfl (fun hb11 => ?_) (fun hb11 => ?_) <;> (have hp11 := hb11; try simp only [] at hp11)
                  cases hb11
                  refine c_exit ?_
                  simp only [thenV_n, thenV_e, blockV_e, reduceIte]
                  refine c_reg fun K hK => ?_
                  simp (maxSteps := 2000000) only [vm, vr]
                  (refine hK _ ?_; clear hK; clear K)
                  refine c_ret1 ?_
                  simp (maxSteps := 2000000) only [vm, vr, reduceIte, Nat.reduceEqDiff]
          | false =>
            simp only [Bool.not_true, Bool.not_false] at hoth
            have ho3 := go false true _ hoth
            rw [show rulV (lifR r k false true) = .agg [nn r.width, nn r.start, nn r.finish, nn r.hlo, nn r.hhi, nn r.cold, .sl ((lifR r k false true).stands.map stdV), nn r.slo, nn r.shi, nn r.flo, nn r.fhi] from rfl, lif_std] at ho3
            have hs10w3 : Sp0 10 [.agg [nn r.width, nn r.start, nn r.finish, nn r.hlo, nn r.hhi, nn r.cold, .sl ((r.stands.map stdV).set k (.agg [nn (r.stands.getD k default).rad, nn (r.stands.getD k default).force, nn 1000000000000, nn (r.stands.getD k default).llo, nn (r.stands.getD k default).lhi])), nn r.slo, nn r.shi, nn r.flo, nn r.fhi], nn g] (R.v2 (.agg [nn k, .sl ((cI S2).map nn)]) (nn 0)) := ho3
            clear ho3
            have hC2 := hlen _ _ _ _ hoth
            generalize cI S2 = C2 at *
            have ho2 := go true false _ rfl
            rw [show rulV (lifR r k true false) = .agg [nn r.width, nn r.start, nn r.finish, nn r.hlo, nn r.hhi, nn r.cold, .sl ((lifR r k true false).stands.map stdV), nn r.slo, nn r.shi, nn r.flo, nn r.fhi] from rfl, lif_std] at ho2
            generalize hO : blockAt (lifR r k true false) (gridL r g) 0 r.stands.length = o at ho2
            cases o with
            | none =>
              have hs10w2 : Sp0 10 [.agg [nn r.width, nn r.start, nn r.finish, nn r.hlo, nn r.hhi, nn r.cold, .sl ((r.stands.map stdV).set k (.agg [nn (r.stands.getD k default).rad, nn 1000000000000, nn (r.stands.getD k default).torque, nn (r.stands.getD k default).llo, nn (r.stands.getD k default).lhi])), nn r.slo, nn r.shi, nn r.flo, nn r.fhi], nn g] (R.v2 (.agg [nn 0, .sl []]) (nn 12)) := ho2
              clear ho2
              refine c_assoc ?_
              refine c_reg fun K hK => ?_
              simp (maxSteps := 2000000) only [vm, vr, q3, kl, reduceIte, Nat.reduceEqDiff, Nat.reduceAdd, Nat.reduceLeDiff, reduceCtorEq]
              (refine hK _ ?_; clear hK; clear K)
              refine c_if _ rfl (fun hb6 => ?_) (fun hb6 => ?_) <;> (have hp6 := hb6; try simp only [] at hp6)
              cases hb6
              refine c_exit ?_
              simp only [thenV_n, thenV_e, blockV_e, reduceIte]
              refine c_assoc ?_
              refine c_reg fun K hK => ?_
              simp (maxSteps := 2000000) only [vm, vr, q3, reduceIte, Nat.reduceEqDiff, Nat.reduceAdd, Nat.reduceLeDiff, reduceCtorEq]
              (apply s_call (spec13 _ _ ?s16501x1); (case hf => rfl); (case hq => (simp (maxSteps := 2000000) only [vm, reduceIte, Nat.reduceEqDiff]; rfl)); (case hvs => rfl); (case s16501x1 => first | assumption | omega | (simp; done) | (simp; omega)))
              simp (maxSteps := 2000000) only [vm, vr, hf]
              (refine hK _ ?_; clear hK; clear K)
              refine c_if _ rfl (fun hb7 => ?_) (fun hb7 => ?_) <;> (have hp7 := hb7; try simp only [] at hp7)
              refine c_reg fun K hK => ?_
              simp (maxSteps := 2000000) only [vm, vr, q3, reduceIte, Nat.reduceEqDiff, Nat.reduceAdd, Nat.reduceLeDiff, reduceCtorEq]
              refine need_by (by first | assumption | omega | (simp; done) | (simp; omega)) ?_
              (refine want_map default (by first | assumption | omega | (simp; done) | (simp; omega)) ?_; simp (maxSteps := 2000000) only [vm, vr, Nat.reduceAdd, Nat.reduceLeDiff])
              (refine hK _ ?_; clear hK; clear K)
              refine c_assoc ?_
              refine c_reg fun K hK => ?_
              simp (maxSteps := 2000000) only [vm, vr, q3, reduceIte, Nat.reduceEqDiff, Nat.reduceAdd, Nat.reduceLeDiff, reduceCtorEq]
              (apply s_call (spec13 _ _ ?s16502x1); (case hf => rfl); (case hq => (simp (maxSteps := 2000000) only [vm, reduceIte, Nat.reduceEqDiff]; rfl)); (case hvs => rfl); (case s16502x1 => first | assumption | omega | (simp; done) | (simp; omega)))
              simp (maxSteps := 2000000) only [vm, vr, ht]
              (refine hK _ ?_; clear hK; clear K)
              refine c_if _ rfl (fun hb8 => ?_) (fun hb8 => ?_) <;> (have hp8 := hb8; try simp only [] at hp8)
              cases hb8
              refine c_reg fun K hK => ?_
              simp (maxSteps := 2000000) only [vm, vr, q3, reduceIte, Nat.reduceEqDiff, Nat.reduceAdd, Nat.reduceLeDiff, reduceCtorEq]
              refine need_by (by first | assumption | omega | (simp; done) | (simp; omega)) ?_
              (refine want_map default (by first | assumption | omega | (simp; done) | (simp; omega)) ?_; simp (maxSteps := 2000000) only [vm, vr, Nat.reduceAdd, Nat.reduceLeDiff])
              (refine hK _ ?_; clear hK; clear K)
              refine c_assoc ?_
              refine c_reg fun K hK => ?_
              simp (maxSteps := 2000000) only [vm, vr, vp, q3, reduceIte, Nat.reduceEqDiff, Nat.reduceAdd, Nat.reduceLeDiff, reduceCtorEq]
              (apply s_call2 (hs10w3); (case hf => rfl); (case hq => (simp (maxSteps := 2000000) only [vm, vr, reduceIte, Nat.reduceEqDiff, reduceCtorEq]; rfl)); (case hvs => rfl))
              simp (maxSteps := 2000000) only [vm, vr, q3, reduceIte, Nat.reduceEqDiff, Nat.reduceAdd, Nat.reduceLeDiff, reduceCtorEq]
              refine need_by (by first | assumption | omega | (simp; done) | (simp; omega)) ?_
              (refine hK _ ?_; clear hK; clear K)
              refine c_assoc ?_
              refine c_reg fun K hK => ?_
              simp (maxSteps := 2000000) only [vm, vr, q3, bne_self_eq_false, reduceIte, Nat.reduceEqDiff, Nat.reduceLeDiff, reduceCtorEq]
              (refine hK _ ?_; clear hK; clear K)
              refine c_if _ rfl (fun hb9 => ?_) (fun hb9 => ?_) <;> (have hp9 := hb9; try simp only [] at hp9)
              cases hb9
              refine c_skip ?_
              refine c_reg fun K hK => ?_
              simp (maxSteps := 2000000) only [vm, vr, vp, q3, reduceIte, Nat.reduceEqDiff, Nat.reduceAdd, Nat.reduceLeDiff, reduceCtorEq]
              (apply s_call2 (hs10w2); (case hf => rfl); (case hq => (simp (maxSteps := 2000000) only [vm, vr, reduceIte, Nat.reduceEqDiff, reduceCtorEq]; rfl)); (case hvs => rfl))
              simp (maxSteps := 2000000) only [vm, vr, q3, reduceIte, Nat.reduceEqDiff, Nat.reduceAdd, Nat.reduceLeDiff, reduceCtorEq]
              refine need_by (by first | assumption | omega | (simp; done) | (simp; omega)) ?_
              (refine hK _ ?_; clear hK; clear K)
              refine c_assoc ?_
              refine c_reg fun K hK => ?_
              simp (maxSteps := 2000000) only [vm, vr, Int.reduceBNe, reduceIte, Nat.reduceEqDiff]
              (refine hK _ ?_; clear hK; clear K)
              refine c_if _ rfl (fun hb10 => ?_) (fun hb10 => ?_) <;> (have hp10 := hb10; try simp only [] at hp10)
              refine c_assoc ?_
              refine c_reg fun K hK => ?_
              simp (maxSteps := 2000000) only [vm, vr, beq_self_eq_true, reduceIte, Nat.reduceEqDiff]
              (refine hK _ ?_; clear hK; clear K)
              refine c_ret ?_
              simp (maxSteps := 2000000) only [vm, vr, reduceIte, Nat.reduceEqDiff]
              cases hb10
              cases hb7
            | some q =>
              obtain ⟨k2, S3⟩ := q
              have hs10w2 : Sp0 10 [.agg [nn r.width, nn r.start, nn r.finish, nn r.hlo, nn r.hhi, nn r.cold, .sl ((r.stands.map stdV).set k (.agg [nn (r.stands.getD k default).rad, nn 1000000000000, nn (r.stands.getD k default).torque, nn (r.stands.getD k default).llo, nn (r.stands.getD k default).lhi])), nn r.slo, nn r.shi, nn r.flo, nn r.fhi], nn g] (R.v2 (.agg [nn k2, .sl ((cI S3).map nn)]) (nn 0)) := ho2
              clear ho2
              have hC := hlen _ _ _ _ hO
              have hfi : k2 = k → allV A = true → ∀ i, i < (cI S3).length → (A.any fun x => x == (cI S3).getD i 0) = false := fun e ha => hfin S3 (by rw [hO, e]) ha
              generalize cI S3 = C at *
              refine c_assoc ?_
              refine c_reg fun K hK => ?_
              simp (maxSteps := 2000000) only [vm, vr, q3, kl, reduceIte, Nat.reduceEqDiff, Nat.reduceAdd, Nat.reduceLeDiff, reduceCtorEq]
              (refine hK _ ?_; clear hK; clear K)
              refine c_if _ rfl (fun hb6 => ?_) (fun hb6 => ?_) <;> (have hp6 := hb6; try simp only [] at hp6)
              cases hb6
              refine c_exit ?_
              simp only [thenV_n, thenV_e, blockV_e, reduceIte]
              refine c_assoc ?_
              refine c_reg fun K hK => ?_
              simp (maxSteps := 2000000) only [vm, vr, q3, reduceIte, Nat.reduceEqDiff, Nat.reduceAdd, Nat.reduceLeDiff, reduceCtorEq]
              (apply s_call (spec13 _ _ ?s17301x1); (case hf => rfl); (case hq => (simp (maxSteps := 2000000) only [vm, reduceIte, Nat.reduceEqDiff]; rfl)); (case hvs => rfl); (case s17301x1 => first | assumption | omega | (simp; done) | (simp; omega)))
              simp (maxSteps := 2000000) only [vm, vr, hf]
              (refine hK _ ?_; clear hK; clear K)
              refine c_if _ rfl (fun hb7 => ?_) (fun hb7 => ?_) <;> (have hp7 := hb7; try simp only [] at hp7)
              refine c_reg fun K hK => ?_
              simp (maxSteps := 2000000) only [vm, vr, q3, reduceIte, Nat.reduceEqDiff, Nat.reduceAdd, Nat.reduceLeDiff, reduceCtorEq]
              refine need_by (by first | assumption | omega | (simp; done) | (simp; omega)) ?_
              (refine want_map default (by first | assumption | omega | (simp; done) | (simp; omega)) ?_; simp (maxSteps := 2000000) only [vm, vr, Nat.reduceAdd, Nat.reduceLeDiff])
              (refine hK _ ?_; clear hK; clear K)
              refine c_assoc ?_
              refine c_reg fun K hK => ?_
              simp (maxSteps := 2000000) only [vm, vr, q3, reduceIte, Nat.reduceEqDiff, Nat.reduceAdd, Nat.reduceLeDiff, reduceCtorEq]
              (apply s_call (spec13 _ _ ?s17302x1); (case hf => rfl); (case hq => (simp (maxSteps := 2000000) only [vm, reduceIte, Nat.reduceEqDiff]; rfl)); (case hvs => rfl); (case s17302x1 => first | assumption | omega | (simp; done) | (simp; omega)))
              simp (maxSteps := 2000000) only [vm, vr, ht]
              (refine hK _ ?_; clear hK; clear K)
              refine c_if _ rfl (fun hb8 => ?_) (fun hb8 => ?_) <;> (have hp8 := hb8; try simp only [] at hp8)
              cases hb8
              refine c_reg fun K hK => ?_
              simp (maxSteps := 2000000) only [vm, vr, q3, reduceIte, Nat.reduceEqDiff, Nat.reduceAdd, Nat.reduceLeDiff, reduceCtorEq]
              refine need_by (by first | assumption | omega | (simp; done) | (simp; omega)) ?_
              (refine want_map default (by first | assumption | omega | (simp; done) | (simp; omega)) ?_; simp (maxSteps := 2000000) only [vm, vr, Nat.reduceAdd, Nat.reduceLeDiff])
              (refine hK _ ?_; clear hK; clear K)
              refine c_assoc ?_
              refine c_reg fun K hK => ?_
              simp (maxSteps := 2000000) only [vm, vr, vp, q3, reduceIte, Nat.reduceEqDiff, Nat.reduceAdd, Nat.reduceLeDiff, reduceCtorEq]
              (apply s_call2 (hs10w3); (case hf => rfl); (case hq => (simp (maxSteps := 2000000) only [vm, vr, reduceIte, Nat.reduceEqDiff, reduceCtorEq]; rfl)); (case hvs => rfl))
              simp (maxSteps := 2000000) only [vm, vr, q3, reduceIte, Nat.reduceEqDiff, Nat.reduceAdd, Nat.reduceLeDiff, reduceCtorEq]
              refine need_by (by first | assumption | omega | (simp; done) | (simp; omega)) ?_
              (refine hK _ ?_; clear hK; clear K)
              refine c_assoc ?_
              refine c_reg fun K hK => ?_
              simp (maxSteps := 2000000) only [vm, vr, q3, bne_self_eq_false, reduceIte, Nat.reduceEqDiff, Nat.reduceLeDiff, reduceCtorEq]
              (refine hK _ ?_; clear hK; clear K)
              refine c_if _ rfl (fun hb9 => ?_) (fun hb9 => ?_) <;> (have hp9 := hb9; try simp only [] at hp9)
              cases hb9
              refine c_skip ?_
              refine c_reg fun K hK => ?_
              simp (maxSteps := 2000000) only [vm, vr, vp, q3, reduceIte, Nat.reduceEqDiff, Nat.reduceAdd, Nat.reduceLeDiff, reduceCtorEq]
              (apply s_call2 (hs10w2); (case hf => rfl); (case hq => (simp (maxSteps := 2000000) only [vm, vr, reduceIte, Nat.reduceEqDiff, reduceCtorEq]; rfl)); (case hvs => rfl))
              simp (maxSteps := 2000000) only [vm, vr, q3, reduceIte, Nat.reduceEqDiff, Nat.reduceAdd, Nat.reduceLeDiff, reduceCtorEq]
              refine need_by (by first | assumption | omega | (simp; done) | (simp; omega)) ?_
              (refine hK _ ?_; clear hK; clear K)
              refine c_assoc ?_
              refine c_reg fun K hK => ?_
              simp (maxSteps := 2000000) only [vm, vr, bne_self_eq_false, reduceIte, Nat.reduceEqDiff]
              (refine hK _ ?_; clear hK; clear K)
              refine c_if _ rfl (fun hb10 => ?_) (fun hb10 => ?_) <;> (have hp10 := hb10; try simp only [] at hp10)
              cases hb10
              refine c_skip ?_
              refine c_assoc ?_
              refine c_reg fun K hK => ?_
              simp (maxSteps := 2000000) only [vm, vr]
              (refine hK _ ?_; clear hK; clear K)
              refine c_block ?_
              rotate_left
              cases hb7
              refine vcode_loop (fun i : Nat => [(4, L.p (V.b false)), (5, L.own 5 0), (9, L.p (V.b (allV A))), (13, L.own 13 0), (15, L.p (nn i))]) (fun _ => [(Key.b 13, M.box 2), (Key.c 13 0, M.cell (L.p (nn k2))), (Key.c 13 1, M.cell (L.p (V.sl (List.map nn C)))), (Key.b 5, M.box 2), (Key.c 5 0, M.cell (L.p (nn k))), (Key.c 5 1, M.cell (L.p (V.sl (List.map nn A))))]) (fun i => i ≤ C.length) (fun i => C.length - i) 0 (Nat.zero_le _) ?_ ?_
              · simp (maxSteps := 2000000) only [vm, vmk, reduceIte, Nat.reduceEqDiff, Nat.reduceAdd, Nat.reduceLT, reduceCtorEq]
              · intro i hi
                rcases Nat.lt_or_ge i C.length with hil | hil
                · have km : decide ((i : Int) < (C.length : Int)) = true := decide_eq_true (by omega)
                  cases e1 : ((k2 : Int) == (k : Int)) with
                  | false =>
                    refine c_assoc ?_
                    refine c_reg fun K hK => ?_
                    simp (maxSteps := 2000000) only [vm, vr, q3, km, reduceIte, Nat.reduceEqDiff, Nat.reduceAdd, Nat.reduceLeDiff, reduceCtorEq]
                    (refine hK _ ?_; clear hK; clear K)
                    refine c_if _ rfl (fun hb11 => ?_) (fun hb11 => ?_) <;> (have hp11 := hb11; try simp only [] at hp11)
                    refine c_skip ?_
                    refine c_block ?_
                    refine c_draw fun K hK => ?_
                    refine d_one fun K hK => ?_
                    simp (maxSteps := 2000000) only [vm, q3, vw, reduceIte, Nat.reduceEqDiff, Nat.reduceLeDiff, reduceCtorEq]
                    (refine hK _ ?_; clear hK; clear K)
                    refine d_one fun K hK => ?_
                    simp (maxSteps := 2000000) only [vm, vr, q3, vw, reduceIte, Nat.reduceEqDiff, Nat.reduceLeDiff, reduceCtorEq]
                    (refine hK _ ?_; clear hK; clear K)
                    refine d_one fun K hK => ?_
                    simp (maxSteps := 2000000) only [vm, vr, q3, vw, reduceIte, Nat.reduceEqDiff, Nat.reduceLeDiff, reduceCtorEq]
                    (refine hK _ ?_; clear hK; clear K)
                    refine d_one fun K hK => ?_
                    simp (maxSteps := 2000000) only [vm, vr, q3, vw, reduceIte, Nat.reduceEqDiff, Nat.reduceLeDiff, reduceCtorEq]
                    (refine hK _ ?_; clear hK; clear K)
                    refine d_one fun K hK => ?_
                    simp (maxSteps := 2000000) only [vm, vr, e1, vw, reduceIte, Nat.reduceEqDiff]
                    (refine hK _ ?_; clear hK; clear K)
                    refine d_one fun K hK => ?_
                    simp (maxSteps := 2000000) only [vm, vr, vw, reduceIte, Nat.reduceEqDiff]
                    (refine hK _ ?_; clear hK; clear K)
                    refine d_oneg fun K hK => ?_
                    simp (maxSteps := 2000000) only [vm, vr, reduceIte, Nat.reduceEqDiff]
                    (refine hK _ ?_; clear hK; clear K)
                    refine d_one fun K hK => ?_
                    simp (maxSteps := 2000000) only [vm, vr, vw, reduceIte, Nat.reduceEqDiff]
                    (refine hK _ ?_; clear hK; clear K)
                    refine d_one fun K hK => ?_
                    simp (maxSteps := 2000000) only [vm, vr, vw, reduceIte, Nat.reduceEqDiff]
                    (refine hK _ ?_; clear hK; clear K)
                    refine d_oneg fun K hK => ?_
                    simp (maxSteps := 2000000) only [vm, vr, reduceIte, Nat.reduceEqDiff]
                    (refine hK _ ?_; clear hK; clear K)
                    refine d_oneg fun K hK => ?_
                    simp (maxSteps := 2000000) only [vm, vr, reduceIte, Nat.reduceEqDiff]
                    (refine hK _ ?_; clear hK; clear K)
                    refine d_oneg fun K hK => ?_
                    simp (maxSteps := 2000000) only [vm, vr, reduceIte, Nat.reduceEqDiff]
                    (refine hK _ ?_; clear hK; clear K)
                    refine d_oneg fun K hK => ?_
                    simp (maxSteps := 2000000) only [vm, vr, reduceIte, Nat.reduceEqDiff]
                    (refine hK _ ?_; clear hK; clear K)
                    refine d_oneg fun K hK => ?_
                    simp (maxSteps := 2000000) only [vm, vr, reduceIte, Nat.reduceEqDiff]
                    (refine hK _ ?_; clear hK; clear K)
                    simp (maxSteps := 2000000) only [vm, vr, reduceIte, Nat.reduceEqDiff]
                    (refine draw_ok (by decide +kernel) (hK _ ?_); clear hK; clear K)
                    refine vcode_if _ rfl (fun hb12 => ?_) (fun hb12 => ?_) <;> (have hp12 := hb12; try simp only [] at hp12)
                    cases hb12
                    refine c_skip1 ?_
                    simp only [thenV_n, blockV_n]
                    refine c_reg1 fun K hK => ?_
                    simp (maxSteps := 2000000) only [vm, vr, reduceIte, Nat.reduceEqDiff]
                    (simp (disch := omega) only [wr64]; try simp (maxSteps := 2000000) only [vm, vr, vt, vp, q3, mapstd, km, e1, hb1, hb2, hb3, hb4, hb5, hb6, hb7, hb8, hb9, hb10, hb11, hb12, Int.reduceBNe, Int.reduceBEq, Int.reduceLT, Int.reduceLE, Int.reduceGT, Int.reduceGE, decide_true, decide_false, bne_self_eq_false, beq_self_eq_true, reduceIte, Nat.reduceEqDiff, Nat.reduceAdd, Nat.reduceLeDiff, Nat.reduceMul, Nat.reduceLT, reduceCtorEq])
                    (refine hK _ ?_; clear hK; clear K)
                    simp only [thenV_n]
                    rotate_left
                    cases hb11
                    refine ⟨i + 1, ?_, by omega, by omega⟩
                    ((show Wk _ _ _; simp only [vm, vmk, reduceIte, Nat.reduceEqDiff, Nat.reduceAdd, Nat.reduceLT, reduceCtorEq]; (try simp (disch := omega) only [wr64]); try omega))
                  | true =>
                    cases e2 : allV A with
                    | false =>
                      refine c_assoc ?_
                      refine c_reg fun K hK => ?_
                      simp (maxSteps := 2000000) only [vm, vr, q3, km, reduceIte, Nat.reduceEqDiff, Nat.reduceAdd, Nat.reduceLeDiff, reduceCtorEq]
                      (refine hK _ ?_; clear hK; clear K)
                      refine c_if _ rfl (fun hb11 => ?_) (fun hb11 => ?_) <;> (have hp11 := hb11; try simp only [] at hp11)
                      refine c_skip ?_
                      refine c_block ?_
                      refine c_draw fun K hK => ?_
                      refine d_one fun K hK => ?_
                      simp (maxSteps := 2000000) only [vm, q3, vw, reduceIte, Nat.reduceEqDiff, Nat.reduceLeDiff, reduceCtorEq]
                      (refine hK _ ?_; clear hK; clear K)
                      refine d_one fun K hK => ?_
                      simp (maxSteps := 2000000) only [vm, vr, q3, vw, reduceIte, Nat.reduceEqDiff, Nat.reduceLeDiff, reduceCtorEq]
                      (refine hK _ ?_; clear hK; clear K)
                      refine d_one fun K hK => ?_
                      simp (maxSteps := 2000000) only [vm, vr, q3, vw, reduceIte, Nat.reduceEqDiff, Nat.reduceLeDiff, reduceCtorEq]
                      (refine hK _ ?_; clear hK; clear K)
                      refine d_one fun K hK => ?_
                      simp (maxSteps := 2000000) only [vm, vr, q3, vw, reduceIte, Nat.reduceEqDiff, Nat.reduceLeDiff, reduceCtorEq]
                      (refine hK _ ?_; clear hK; clear K)
                      refine d_one fun K hK => ?_
                      simp (maxSteps := 2000000) only [vm, vr, e1, vw, reduceIte, Nat.reduceEqDiff]
                      (refine hK _ ?_; clear hK; clear K)
                      refine d_one fun K hK => ?_
                      simp (maxSteps := 2000000) only [vm, vr, vw, reduceIte, Nat.reduceEqDiff]
                      (refine hK _ ?_; clear hK; clear K)
                      refine d_oneg fun K hK => ?_
                      simp (maxSteps := 2000000) only [vm, vr, reduceIte, Nat.reduceEqDiff]
                      simp (maxSteps := 2000000) only [vm, vw, reduceIte, Nat.reduceEqDiff]
                      (refine hK _ ?_; clear hK; clear K)
                      refine d_one fun K hK => ?_
                      simp (maxSteps := 2000000) only [vm, vr, vw, reduceIte, Nat.reduceEqDiff]
                      (refine hK _ ?_; clear hK; clear K)
                      refine d_one fun K hK => ?_
                      simp (maxSteps := 2000000) only [vm, vr, vw, reduceIte, Nat.reduceEqDiff]
                      (refine hK _ ?_; clear hK; clear K)
                      refine d_oneg fun K hK => ?_
                      simp (maxSteps := 2000000) only [vm, vr, reduceIte, Nat.reduceEqDiff]
                      (refine hK _ ?_; clear hK; clear K)
                      refine d_oneg fun K hK => ?_
                      simp (maxSteps := 2000000) only [vm, vr, reduceIte, Nat.reduceEqDiff]
                      (refine hK _ ?_; clear hK; clear K)
                      refine d_oneg fun K hK => ?_
                      simp (maxSteps := 2000000) only [vm, vr, reduceIte, Nat.reduceEqDiff]
                      (refine hK _ ?_; clear hK; clear K)
                      refine d_oneg fun K hK => ?_
                      simp (maxSteps := 2000000) only [vm, vr, reduceIte, Nat.reduceEqDiff]
                      (refine hK _ ?_; clear hK; clear K)
                      refine d_oneg fun K hK => ?_
                      simp (maxSteps := 2000000) only [vm, vr, reduceIte, Nat.reduceEqDiff]
                      (refine hK _ ?_; clear hK; clear K)
                      simp (maxSteps := 2000000) only [vm, vr, reduceIte, Nat.reduceEqDiff]
                      (refine draw_ok (by decide +kernel) (hK _ ?_); clear hK; clear K)
                      refine vcode_if _ rfl (fun hb12 => ?_) (fun hb12 => ?_) <;> (have hp12 := hb12; try simp only [] at hp12)
                      cases hb12
                      refine c_skip1 ?_
                      simp only [thenV_n, blockV_n]
                      refine c_reg1 fun K hK => ?_
                      simp (maxSteps := 2000000) only [vm, vr, reduceIte, Nat.reduceEqDiff]
                      (simp (disch := omega) only [wr64]; try simp (maxSteps := 2000000) only [vm, vr, vt, vp, q3, mapstd, km, e1, e2, hb1, hb2, hb3, hb4, hb5, hb6, hb7, hb8, hb9, hb10, hb11, hb12, Int.reduceBNe, Int.reduceBEq, Int.reduceLT, Int.reduceLE, Int.reduceGT, Int.reduceGE, decide_true, decide_false, bne_self_eq_false, beq_self_eq_true, reduceIte, Nat.reduceEqDiff, Nat.reduceAdd, Nat.reduceLeDiff, Nat.reduceMul, Nat.reduceLT, reduceCtorEq])
                      (refine hK _ ?_; clear hK; clear K)
                      simp only [thenV_n]
                      rotate_left
                      cases hb11
                      refine ⟨i + 1, ?_, by omega, by omega⟩
                      ((show Wk _ _ _; simp only [vm, vmk, reduceIte, Nat.reduceEqDiff, Nat.reduceAdd, Nat.reduceLT, reduceCtorEq]; (try simp (disch := omega) only [wr64]); try omega))
                    | true =>
                      have e3 := hfi (by have := beq_iff_eq.1 e1; omega) e2 i hil
                      refine c_assoc ?_
                      refine c_reg fun K hK => ?_
                      simp (maxSteps := 2000000) only [vm, vr, q3, km, reduceIte, Nat.reduceEqDiff, Nat.reduceAdd, Nat.reduceLeDiff, reduceCtorEq]
                      (refine hK _ ?_; clear hK; clear K)
                      refine c_if _ rfl (fun hb11 => ?_) (fun hb11 => ?_) <;> (have hp11 := hb11; try simp only [] at hp11)
                      refine c_skip ?_
                      refine c_block ?_
                      refine c_draw fun K hK => ?_
                      refine d_one fun K hK => ?_
                      simp (maxSteps := 2000000) only [vm, q3, vw, reduceIte, Nat.reduceEqDiff, Nat.reduceLeDiff, reduceCtorEq]
                      (refine hK _ ?_; clear hK; clear K)
                      refine d_one fun K hK => ?_
                      simp (maxSteps := 2000000) only [vm, vr, q3, vw, reduceIte, Nat.reduceEqDiff, Nat.reduceLeDiff, reduceCtorEq]
                      (refine hK _ ?_; clear hK; clear K)
                      refine d_one fun K hK => ?_
                      simp (maxSteps := 2000000) only [vm, vr, q3, vw, reduceIte, Nat.reduceEqDiff, Nat.reduceLeDiff, reduceCtorEq]
                      (refine hK _ ?_; clear hK; clear K)
                      refine d_one fun K hK => ?_
                      simp (maxSteps := 2000000) only [vm, vr, q3, vw, reduceIte, Nat.reduceEqDiff, Nat.reduceLeDiff, reduceCtorEq]
                      (refine hK _ ?_; clear hK; clear K)
                      refine d_one fun K hK => ?_
                      simp (maxSteps := 2000000) only [vm, vr, e1, vw, reduceIte, Nat.reduceEqDiff]
                      (refine hK _ ?_; clear hK; clear K)
                      refine d_one fun K hK => ?_
                      simp (maxSteps := 2000000) only [vm, vr, vw, reduceIte, Nat.reduceEqDiff]
                      (refine hK _ ?_; clear hK; clear K)
                      refine d_oneg fun K hK => ?_
                      simp (maxSteps := 2000000) only [vm, vr, reduceIte, Nat.reduceEqDiff]
                      simp (maxSteps := 2000000) only [vm, vw, reduceIte, Nat.reduceEqDiff]
                      (refine hK _ ?_; clear hK; clear K)
                      refine d_one fun K hK => ?_
                      simp (maxSteps := 2000000) only [vm, vr, vw, reduceIte, Nat.reduceEqDiff]
                      (refine hK _ ?_; clear hK; clear K)
                      refine d_one fun K hK => ?_
                      simp (maxSteps := 2000000) only [vm, vr, vw, reduceIte, Nat.reduceEqDiff]
                      (refine hK _ ?_; clear hK; clear K)
                      refine d_oneg fun K hK => ?_
                      simp (maxSteps := 2000000) only [vm, vr, reduceIte, Nat.reduceEqDiff]
                      simp (maxSteps := 2000000) only [vm, q3, vw, reduceIte, Nat.reduceEqDiff, Nat.reduceAdd, Nat.reduceLeDiff, reduceCtorEq]
                      (refine hK _ ?_; clear hK; clear K)
                      refine d_oneg fun K hK => ?_
                      simp (maxSteps := 2000000) only [vm, vr, reduceIte, Nat.reduceEqDiff]
                      simp (maxSteps := 2000000) only [vm, q3, vw, reduceIte, Nat.reduceEqDiff, Nat.reduceAdd, Nat.reduceLeDiff, reduceCtorEq]
                      (refine hK _ ?_; clear hK; clear K)
                      refine d_oneg fun K hK => ?_
                      simp (maxSteps := 2000000) only [vm, vr, reduceIte, Nat.reduceEqDiff]
                      simp (maxSteps := 2000000) only [vm, q3, vw, reduceIte, Nat.reduceEqDiff, Nat.reduceAdd, Nat.reduceLeDiff, reduceCtorEq]
                      (refine hK _ ?_; clear hK; clear K)
                      refine d_oneg fun K hK => ?_
                      simp (maxSteps := 2000000) only [vm, vr, reduceIte, Nat.reduceEqDiff]
                      simp (maxSteps := 2000000) only [vm, q3, vw, reduceIte, Nat.reduceEqDiff, Nat.reduceAdd, Nat.reduceLeDiff, reduceCtorEq]
                      (refine hK _ ?_; clear hK; clear K)
                      refine d_oneg fun K hK => ?_
                      simp (maxSteps := 2000000) only [vm, vr, reduceIte, Nat.reduceEqDiff]
                      simp (maxSteps := 2000000) only [vm, vw, reduceIte, Nat.reduceEqDiff]
                      (refine hK _ ?_; clear hK; clear K)
                      simp (maxSteps := 2000000) only [vm, vr, q3, reduceIte, Nat.reduceEqDiff]
                      (refine atI_map 0 (by first | assumption | omega | (simp; done) | (simp; omega)) (by first | assumption | omega | (simp; done) | (simp; omega)) ?_; simp (maxSteps := 2000000) only [vm, vr, q3])
                      (apply d_call (spec13 _ _ ?s19201x1); (case hf => rfl); (case hq => (simp (maxSteps := 2000000) only [vm, reduceIte, Nat.reduceEqDiff]; rfl)); (case hvs => rfl); (case s19201x1 => first | assumption | omega | (simp; done) | (simp; omega)))
                      simp (maxSteps := 2000000) only [vm, vr, e3, reduceIte, Nat.reduceEqDiff]
                      (refine draw_ok (by decide +kernel) (hK _ ?_); clear hK; clear K)
                      refine vcode_if _ rfl (fun hb12 => ?_) (fun hb12 => ?_) <;> (have hp12 := hb12; try simp only [] at hp12)
                      cases hb12
                      refine c_skip1 ?_
                      simp only [thenV_n, blockV_n]
                      refine c_reg1 fun K hK => ?_
                      simp (maxSteps := 2000000) only [vm, vr, reduceIte, Nat.reduceEqDiff]
                      (simp (disch := omega) only [wr64]; try simp (maxSteps := 2000000) only [vm, vr, vt, vp, q3, mapstd, km, e1, e2, e3, hb1, hb2, hb3, hb4, hb5, hb6, hb7, hb8, hb9, hb10, hb11, hb12, Int.reduceBNe, Int.reduceBEq, Int.reduceLT, Int.reduceLE, Int.reduceGT, Int.reduceGE, decide_true, decide_false, bne_self_eq_false, beq_self_eq_true, reduceIte, Nat.reduceEqDiff, Nat.reduceAdd, Nat.reduceLeDiff, Nat.reduceMul, Nat.reduceLT, reduceCtorEq])
                      (refine hK _ ?_; clear hK; clear K)
                      simp only [thenV_n]
                      rotate_left
                      cases hb11
                      refine ⟨i + 1, ?_, by omega, by omega⟩
                      ((show Wk _ _ _; simp only [vm, vmk, reduceIte, Nat.reduceEqDiff, Nat.reduceAdd, Nat.reduceLT, reduceCtorEq]; (try simp (disch := omega) only [wr64]); try omega))
                · have km : decide ((i : Int) < (C.length : Int)) = false := decide_eq_false_iff_not.2 (by omega)
                  refine c_assoc ?_
                  refine c_reg fun K hK => ?_
                  simp (maxSteps := 2000000) only [vm, vr, q3, km, reduceIte, Nat.reduceEqDiff, Nat.reduceAdd, Nat.reduceLeDiff, reduceCtorEq]
                  (refine hK _ ?_; clear hK; clear K)
                  refine c_if _ rfl (fun hb11 => ?_) (fun hb11 => ?_) <;> (have hp11 := hb11; try simp only [] at hp11)
                  cases hb11
                  refine c_exit ?_
                  simp only [thenV_n, thenV_e, blockV_e, reduceIte]
                  refine c_reg fun K hK => ?_
                  simp (maxSteps := 2000000) only [vm, vr]
                  (refine hK _ ?_; clear hK; clear K)
                  refine c_ret1 ?_
                  simp (maxSteps := 2000000) only [vm, vr, reduceIte, Nat.reduceEqDiff]
        | false =>
          cases t with
          | true =>
            simp only [Bool.not_true, Bool.not_false] at hoth
            have ho3 := go true false _ hoth
            rw [show rulV (lifR r k true false) = .agg [nn r.width, nn r.start, nn r.finish, nn r.hlo, nn r.hhi, nn r.cold, .sl ((lifR r k true false).stands.map stdV), nn r.slo, nn r.shi, nn r.flo, nn r.fhi] from rfl, lif_std] at ho3
            have hs10w3 : Sp0 10 [.agg [nn r.width, nn r.start, nn r.finish, nn r.hlo, nn r.hhi, nn r.cold, .sl ((r.stands.map stdV).set k (.agg [nn (r.stands.getD k default).rad, nn 1000000000000, nn (r.stands.getD k default).torque, nn (r.stands.getD k default).llo, nn (r.stands.getD k default).lhi])), nn r.slo, nn r.shi, nn r.flo, nn r.fhi], nn g] (R.v2 (.agg [nn k, .sl ((cI S2).map nn)]) (nn 0)) := ho3
            clear ho3
            have hC2 := hlen _ _ _ _ hoth
            generalize cI S2 = C2 at *
            have ho2 := go false true _ rfl
            rw [show rulV (lifR r k false true) = .agg [nn r.width, nn r.start, nn r.finish, nn r.hlo, nn r.hhi, nn r.cold, .sl ((lifR r k false true).stands.map stdV), nn r.slo, nn r.shi, nn r.flo, nn r.fhi] from rfl, lif_std] at ho2
            generalize hO : blockAt (lifR r k false true) (gridL r g) 0 r.stands.length = o at ho2
            cases o with
            | none =>
              have hs10w2 : Sp0 10 [.agg [nn r.width, nn r.start, nn r.finish, nn r.hlo, nn r.hhi, nn r.cold, .sl ((r.stands.map stdV).set k (.agg [nn (r.stands.getD k default).rad, nn (r.stands.getD k default).force, nn 1000000000000, nn (r.stands.getD k default).llo, nn (r.stands.getD k default).lhi])), nn r.slo, nn r.shi, nn r.flo, nn r.fhi], nn g] (R.v2 (.agg [nn 0, .sl []]) (nn 12)) := ho2
              clear ho2
              refine c_assoc ?_
              refine c_reg fun K hK => ?_
              simp (maxSteps := 2000000) only [vm, vr, q3, kl, reduceIte, Nat.reduceEqDiff, Nat.reduceAdd, Nat.reduceLeDiff, reduceCtorEq]
              (refine hK _ ?_; clear hK; clear K)
              refine c_if _ rfl (fun hb6 => ?_) (fun hb6 => ?_) <;> (have hp6 := hb6; try simp only [] at hp6)
              cases hb6
              refine c_exit ?_
              simp only [thenV_n, thenV_e, blockV_e, reduceIte]
              refine c_assoc ?_
              refine c_reg fun K hK => ?_
              simp (maxSteps := 2000000) only [vm, vr, q3, reduceIte, Nat.reduceEqDiff, Nat.reduceAdd, Nat.reduceLeDiff, reduceCtorEq]
              (apply s_call (spec13 _ _ ?s21401x1); (case hf => rfl); (case hq => (simp (maxSteps := 2000000) only [vm, reduceIte, Nat.reduceEqDiff]; rfl)); (case hvs => rfl); (case s21401x1 => first | assumption | omega | (simp; done) | (simp; omega)))
              simp (maxSteps := 2000000) only [vm, vr, hf]
              (refine hK _ ?_; clear hK; clear K)
              refine c_if _ rfl (fun hb7 => ?_) (fun hb7 => ?_) <;> (have hp7 := hb7; try simp only [] at hp7)
              cases hb7
              refine c_reg fun K hK => ?_
              simp (maxSteps := 2000000) only [vm, vr, q3, reduceIte, Nat.reduceEqDiff, Nat.reduceAdd, Nat.reduceLeDiff, reduceCtorEq]
              refine need_by (by first | assumption | omega | (simp; done) | (simp; omega)) ?_
              (refine want_map default (by first | assumption | omega | (simp; done) | (simp; omega)) ?_; simp (maxSteps := 2000000) only [vm, vr, Nat.reduceAdd, Nat.reduceLeDiff])
              (refine hK _ ?_; clear hK; clear K)
              refine c_assoc ?_
              refine c_reg fun K hK => ?_
              simp (maxSteps := 2000000) only [vm, vr, q3, reduceIte, Nat.reduceEqDiff, Nat.reduceAdd, Nat.reduceLeDiff, reduceCtorEq]
              (apply s_call (spec13 _ _ ?s21402x1); (case hf => rfl); (case hq => (simp (maxSteps := 2000000) only [vm, reduceIte, Nat.reduceEqDiff]; rfl)); (case hvs => rfl); (case s21402x1 => first | assumption | omega | (simp; done) | (simp; omega)))
              simp (maxSteps := 2000000) only [vm, vr, ht]
              (refine hK _ ?_; clear hK; clear K)
              refine c_if _ rfl (fun hb8 => ?_) (fun hb8 => ?_) <;> (have hp8 := hb8; try simp only [] at hp8)
              refine c_reg fun K hK => ?_
              simp (maxSteps := 2000000) only [vm, vr, q3, reduceIte, Nat.reduceEqDiff, Nat.reduceAdd, Nat.reduceLeDiff, reduceCtorEq]
              refine need_by (by first | assumption | omega | (simp; done) | (simp; omega)) ?_
              (refine want_map default (by first | assumption | omega | (simp; done) | (simp; omega)) ?_; simp (maxSteps := 2000000) only [vm, vr, Nat.reduceAdd, Nat.reduceLeDiff])
              (refine hK _ ?_; clear hK; clear K)
              refine c_assoc ?_
              refine c_reg fun K hK => ?_
              simp (maxSteps := 2000000) only [vm, vr, vp, q3, reduceIte, Nat.reduceEqDiff, Nat.reduceAdd, Nat.reduceLeDiff, reduceCtorEq]
              (apply s_call2 (hs10w3); (case hf => rfl); (case hq => (simp (maxSteps := 2000000) only [vm, vr, reduceIte, Nat.reduceEqDiff, reduceCtorEq]; rfl)); (case hvs => rfl))
              simp (maxSteps := 2000000) only [vm, vr, q3, reduceIte, Nat.reduceEqDiff, Nat.reduceAdd, Nat.reduceLeDiff, reduceCtorEq]
              refine need_by (by first | assumption | omega | (simp; done) | (simp; omega)) ?_
              (refine hK _ ?_; clear hK; clear K)
              refine c_assoc ?_
              refine c_reg fun K hK => ?_
              simp (maxSteps := 2000000) only [vm, vr, q3, bne_self_eq_false, reduceIte, Nat.reduceEqDiff, Nat.reduceLeDiff, reduceCtorEq]
              (refine hK _ ?_; clear hK; clear K)
              refine c_if _ rfl (fun hb9 => ?_) (fun hb9 => ?_) <;> (have hp9 := hb9; try simp only [] at hp9)
              cases hb9
              refine c_skip ?_
              refine c_reg fun K hK => ?_
              simp (maxSteps := 2000000) only [vm, vr, vp, q3, reduceIte, Nat.reduceEqDiff, Nat.reduceAdd, Nat.reduceLeDiff, reduceCtorEq]
              (apply s_call2 (hs10w2); (case hf => rfl); (case hq => (simp (maxSteps := 2000000) only [vm, vr, reduceIte, Nat.reduceEqDiff, reduceCtorEq]; rfl)); (case hvs => rfl))
              simp (maxSteps := 2000000) only [vm, vr, q3, reduceIte, Nat.reduceEqDiff, Nat.reduceAdd, Nat.reduceLeDiff, reduceCtorEq]
              refine need_by (by first | assumption | omega | (simp; done) | (simp; omega)) ?_
              (refine hK _ ?_; clear hK; clear K)
              refine c_assoc ?_
              refine c_reg fun K hK => ?_
              simp (maxSteps := 2000000) only [vm, vr, Int.reduceBNe, reduceIte, Nat.reduceEqDiff]
              (refine hK _ ?_; clear hK; clear K)
              refine c_if _ rfl (fun hb10 => ?_) (fun hb10 => ?_) <;> (have hp10 := hb10; try simp only [] at hp10)
              refine c_assoc ?_
              refine c_reg fun K hK => ?_
              simp (maxSteps := 2000000) only [vm, vr, beq_self_eq_true, reduceIte, Nat.reduceEqDiff]
              (refine hK _ ?_; clear hK; clear K)
              refine c_ret ?_
              simp (maxSteps := 2000000) only [vm, vr, reduceIte, Nat.reduceEqDiff]
              cases hb10
              cases hb8
            | some q =>
              obtain ⟨k2, S3⟩ := q
              have hs10w2 : Sp0 10 [.agg [nn r.width, nn r.start, nn r.finish, nn r.hlo, nn r.hhi, nn r.cold, .sl ((r.stands.map stdV).set k (.agg [nn (r.stands.getD k default).rad, nn (r.stands.getD k default).force, nn 1000000000000, nn (r.stands.getD k default).llo, nn (r.stands.getD k default).lhi])), nn r.slo, nn r.shi, nn r.flo, nn r.fhi], nn g] (R.v2 (.agg [nn k2, .sl ((cI S3).map nn)]) (nn 0)) := ho2
              clear ho2
              have hC := hlen _ _ _ _ hO
              have hfi : k2 = k → allV A = true → ∀ i, i < (cI S3).length → (A.any fun x => x == (cI S3).getD i 0) = false := fun e ha => hfin S3 (by rw [hO, e]) ha
              generalize cI S3 = C at *
              refine c_assoc ?_
              refine c_reg fun K hK => ?_
              simp (maxSteps := 2000000) only [vm, vr, q3, kl, reduceIte, Nat.reduceEqDiff, Nat.reduceAdd, Nat.reduceLeDiff, reduceCtorEq]
              (refine hK _ ?_; clear hK; clear K)
              refine c_if _ rfl (fun hb6 => ?_) (fun hb6 => ?_) <;> (have hp6 := hb6; try simp only [] at hp6)
              cases hb6
              refine c_exit ?_
              simp only [thenV_n, thenV_e, blockV_e, reduceIte]
              refine c_assoc ?_
              refine c_reg fun K hK => ?_
              simp (maxSteps := 2000000) only [vm, vr, q3, reduceIte, Nat.reduceEqDiff, Nat.reduceAdd, Nat.reduceLeDiff, reduceCtorEq]
              (apply s_call (spec13 _ _ ?s22201x1); (case hf => rfl); (case hq => (simp (maxSteps := 2000000) only [vm, reduceIte, Nat.reduceEqDiff]; rfl)); (case hvs => rfl); (case s22201x1 => first | assumption | omega | (simp; done) | (simp; omega)))
              simp (maxSteps := 2000000) only [vm, vr, hf]
              (refine hK _ ?_; clear hK; clear K)
              refine c_if _ rfl (fun hb7 => ?_) (fun hb7 => ?_) <;> (have hp7 := hb7; try simp only [] at hp7)
              cases hb7
              refine c_reg fun K hK => ?_
              simp (maxSteps := 2000000) only [vm, vr, q3, reduceIte, Nat.reduceEqDiff, Nat.reduceAdd, Nat.reduceLeDiff, reduceCtorEq]
              refine need_by (by first | assumption | omega | (simp; done) | (simp; omega)) ?_
              (refine want_map default (by first | assumption | omega | (simp; done) | (simp; omega)) ?_; simp (maxSteps := 2000000) only [vm, vr, Nat.reduceAdd, Nat.reduceLeDiff])
              (refine hK _ ?_; clear hK; clear K)
              refine c_assoc ?_
              refine c_reg fun K hK => ?_
              simp (maxSteps := 2000000) only [vm, vr, q3, reduceIte, Nat.reduceEqDiff, Nat.reduceAdd, Nat.reduceLeDiff, reduceCtorEq]
              (apply s_call (spec13 _ _ ?s22202x1); (case hf => rfl); (case hq => (simp (maxSteps := 2000000) only [vm, reduceIte, Nat.reduceEqDiff]; rfl)); (case hvs => rfl); (case s22202x1 => first | assumption | omega | (simp; done) | (simp; omega)))
              simp (maxSteps := 2000000) only [vm, vr, ht]
              (refine hK _ ?_; clear hK; clear K)
              refine c_if _ rfl (fun hb8 => ?_) (fun hb8 => ?_) <;> (have hp8 := hb8; try simp only [] at hp8)
              refine c_reg fun K hK => ?_
              simp (maxSteps := 2000000) only [vm, vr, q3, reduceIte, Nat.reduceEqDiff, Nat.reduceAdd, Nat.reduceLeDiff, reduceCtorEq]
              refine need_by (by first | assumption | omega | (simp; done) | (simp; omega)) ?_
              (refine want_map default (by first | assumption | omega | (simp; done) | (simp; omega)) ?_; simp (maxSteps := 2000000) only [vm, vr, Nat.reduceAdd, Nat.reduceLeDiff])
              (refine hK _ ?_; clear hK; clear K)
              refine c_assoc ?_
              refine c_reg fun K hK => ?_
              simp (maxSteps := 2000000) only [vm, vr, vp, q3, reduceIte, Nat.reduceEqDiff, Nat.reduceAdd, Nat.reduceLeDiff, reduceCtorEq]
              (apply s_call2 (hs10w3); (case hf => rfl); (case hq => (simp (maxSteps := 2000000) only [vm, vr, reduceIte, Nat.reduceEqDiff, reduceCtorEq]; rfl)); (case hvs => rfl))
              simp (maxSteps := 2000000) only [vm, vr, q3, reduceIte, Nat.reduceEqDiff, Nat.reduceAdd, Nat.reduceLeDiff, reduceCtorEq]
              refine need_by (by first | assumption | omega | (simp; done) | (simp; omega)) ?_
              (refine hK _ ?_; clear hK; clear K)
              refine c_assoc ?_
              refine c_reg fun K hK => ?_
              simp (maxSteps := 2000000) only [vm, vr, q3, bne_self_eq_false, reduceIte, Nat.reduceEqDiff, Nat.reduceLeDiff, reduceCtorEq]
              (refine hK _ ?_; clear hK; clear K)
              refine c_if _ rfl (fun hb9 => ?_) (fun hb9 => ?_) <;> (have hp9 := hb9; try simp only [] at hp9)
              cases hb9
              refine c_skip ?_
              refine c_reg fun K hK => ?_
              simp (maxSteps := 2000000) only [vm, vr, vp, q3, reduceIte, Nat.reduceEqDiff, Nat.reduceAdd, Nat.reduceLeDiff, reduceCtorEq]
              (apply s_call2 (hs10w2); (case hf => rfl); (case hq => (simp (maxSteps := 2000000) only [vm, vr, reduceIte, Nat.reduceEqDiff, reduceCtorEq]; rfl)); (case hvs => rfl))
              simp (maxSteps := 2000000) only [vm, vr, q3, reduceIte, Nat.reduceEqDiff, Nat.reduceAdd, Nat.reduceLeDiff, reduceCtorEq]
              refine need_by (by first | assumption | omega | (simp; done) | (simp; omega)) ?_
              (refine hK _ ?_; clear hK; clear K)
              refine c_assoc ?_
              refine c_reg fun K hK => ?_
              simp (maxSteps := 2000000) only [vm, vr, bne_self_eq_false, reduceIte, Nat.reduceEqDiff]
              (refine hK _ ?_; clear hK; clear K)
              refine c_if _ rfl (fun hb10 => ?_) (fun hb10 => ?_) <;> (have hp10 := hb10; try simp only [] at hp10)
              cases hb10
              refine c_skip ?_
              refine c_assoc ?_
              refine c_reg fun K hK => ?_
              simp (maxSteps := 2000000) only [vm, vr]
              (refine hK _ ?_; clear hK; clear K)
              refine c_block ?_
              rotate_left
              cases hb8
              refine vcode_loop (fun i : Nat => [(4, L.p (V.b false)), (5, L.own 5 0), (9, L.p (V.b (allV A))), (13, L.own 13 0), (15, L.p (nn i))]) (fun _ => [(Key.b 13, M.box 2), (Key.c 13 0, M.cell (L.p (nn k2))), (Key.c 13 1, M.cell (L.p (V.sl (List.map nn C)))), (Key.b 5, M.box 2), (Key.c 5 0, M.cell (L.p (nn k))), (Key.c 5 1, M.cell (L.p (V.sl (List.map nn A))))]) (fun i => i ≤ C.length) (fun i => C.length - i) 0 (Nat.zero_le _) ?_ ?_
              · simp (maxSteps := 2000000) only [vm, vmk, reduceIte, Nat.reduceEqDiff, Nat.reduceAdd, Nat.reduceLT, reduceCtorEq]
              · intro i hi
                rcases Nat.lt_or_ge i C.length with hil | hil
                · have km : decide ((i : Int) < (C.length : Int)) = true := decide_eq_true (by omega)
                  cases e1 : ((k2 : Int) == (k : Int)) with
                  | false =>
                    refine c_assoc ?_
                    refine c_reg fun K hK => ?_
                    simp (maxSteps := 2000000) only [vm, vr, q3, km, reduceIte, Nat.reduceEqDiff, Nat.reduceAdd, Nat.reduceLeDiff, reduceCtorEq]
                    (refine hK _ ?_; clear hK; clear K)
                    refine c_if _ rfl (fun hb11 => ?_) (fun hb11 => ?_) <;> (have hp11 := hb11; try simp only [] at hp11)
                    refine c_skip ?_
                    refine c_block ?_
                    refine c_draw fun K hK => ?_
                    refine d_one fun K hK => ?_
                    simp (maxSteps := 2000000) only [vm, q3, vw, reduceIte, Nat.reduceEqDiff, Nat.reduceLeDiff, reduceCtorEq]
                    (refine hK _ ?_; clear hK; clear K)
                    refine d_one fun K hK => ?_
                    simp (maxSteps := 2000000) only [vm, vr, q3, vw, reduceIte, Nat.reduceEqDiff, Nat.reduceLeDiff, reduceCtorEq]
                    (refine hK _ ?_; clear hK; clear K)
                    refine d_one fun K hK => ?_
                    simp (maxSteps := 2000000) only [vm, vr, q3, vw, reduceIte, Nat.reduceEqDiff, Nat.reduceLeDiff, reduceCtorEq]
                    (refine hK _ ?_; clear hK; clear K)
                    refine d_one fun K hK => ?_
                    simp (maxSteps := 2000000) only [vm, vr, q3, vw, reduceIte, Nat.reduceEqDiff, Nat.reduceLeDiff, reduceCtorEq]
                    (refine hK _ ?_; clear hK; clear K)
                    refine d_one fun K hK => ?_
                    simp (maxSteps := 2000000) only [vm, vr, e1, vw, reduceIte, Nat.reduceEqDiff]
                    (refine hK _ ?_; clear hK; clear K)
                    refine d_one fun K hK => ?_
                    simp (maxSteps := 2000000) only [vm, vr, vw, reduceIte, Nat.reduceEqDiff]
                    (refine hK _ ?_; clear hK; clear K)
                    refine d_oneg fun K hK => ?_
                    simp (maxSteps := 2000000) only [vm, vr, reduceIte, Nat.reduceEqDiff]
                    (refine hK _ ?_; clear hK; clear K)
                    refine d_one fun K hK => ?_
                    simp (maxSteps := 2000000) only [vm, vr, vw, reduceIte, Nat.reduceEqDiff]
                    (refine hK _ ?_; clear hK; clear K)
                    refine d_one fun K hK => ?_
                    simp (maxSteps := 2000000) only [vm, vr, vw, reduceIte, Nat.reduceEqDiff]
                    (refine hK _ ?_; clear hK; clear K)
                    refine d_oneg fun K hK => ?_
                    simp (maxSteps := 2000000) only [vm, vr, reduceIte, Nat.reduceEqDiff]
                    (refine hK _ ?_; clear hK; clear K)
                    refine d_oneg fun K hK => ?_
                    simp (maxSteps := 2000000) only [vm, vr, reduceIte, Nat.reduceEqDiff]
                    (refine hK _ ?_; clear hK; clear K)
                    refine d_oneg fun K hK => ?_
                    simp (maxSteps := 2000000) only [vm, vr, reduceIte, Nat.reduceEqDiff]
                    (refine hK _ ?_; clear hK; clear K)
                    refine d_oneg fun K hK => ?_
                    simp (maxSteps := 2000000) only [vm, vr, reduceIte, Nat.reduceEqDiff]
                    (refine hK _ ?_; clear hK; clear K)
                    refine d_oneg fun K hK => ?_
                    simp (maxSteps := 2000000) only [vm, vr, reduceIte, Nat.reduceEqDiff]
                    (refine hK _ ?_; clear hK; clear K)
                    simp (maxSteps := 2000000) only [vm, vr, reduceIte, Nat.reduceEqDiff]
                    (refine draw_ok (by decide +kernel) (hK _ ?_); clear hK; clear K)
                    refine vcode_if _ rfl (fun hb12 => ?_) (fun hb12 => ?_) <;> (have hp12 := hb12; try simp only [] at hp12)
                    cases hb12
                    refine c_skip1 ?_
                    simp only [thenV_n, blockV_n]
                    refine c_reg1 fun K hK => ?_
                    simp (maxSteps := 2000000) only [vm, vr, reduceIte, Nat.reduceEqDiff]
                    (simp (disch := omega) only [wr64]; try simp (maxSteps := 2000000) only [vm, vr, vt, vp, q3, mapstd, km, e1, hb1, hb2, hb3, hb4, hb5, hb6, hb7, hb8, hb9, hb10, hb11, hb12, Int.reduceBNe, Int.reduceBEq, Int.reduceLT, Int.reduceLE, Int.reduceGT, Int.reduceGE, decide_true, decide_false, bne_self_eq_false, beq_self_eq_true, reduceIte, Nat.reduceEqDiff, Nat.reduceAdd, Nat.reduceLeDiff, Nat.reduceMul, Nat.reduceLT, reduceCtorEq])
                    (refine hK _ ?_; clear hK; clear K)
                    simp only [thenV_n]
                    rotate_left
                    cases hb11
                    refine ⟨i + 1, ?_, by omega, by omega⟩
                    ((show Wk _ _ _; simp only [vm, vmk, reduceIte, Nat.reduceEqDiff, Nat.reduceAdd, Nat.reduceLT, reduceCtorEq]; (try simp (disch := omega) only [wr64]); try omega))
                  | true =>
                    cases e2 : allV A with
                    | false =>
                      refine c_assoc ?_
                      refine c_reg fun K hK => ?_
                      simp (maxSteps := 2000000) only [vm, vr, q3, km, reduceIte, Nat.reduceEqDiff, Nat.reduceAdd, Nat.reduceLeDiff, reduceCtorEq]
                      (refine hK _ ?_; clear hK; clear K)
                      refine c_if _ rfl (fun hb11 => ?_) (fun hb11 => ?_) <;> (have hp11 := hb11; try simp only [] at hp11)
                      refine c_skip ?_
                      refine c_block ?_
                      refine c_draw fun K hK => ?_
                      refine d_one fun K hK => ?_
                      simp (maxSteps := 2000000) only [vm, q3, vw, reduceIte, Nat.reduceEqDiff, Nat.reduceLeDiff, reduceCtorEq]
                      (refine hK _ ?_; clear hK; clear K)
                      refine d_one fun K hK => ?_
                      simp (maxSteps := 2000000) only [vm, vr, q3, vw, reduceIte, Nat.reduceEqDiff, Nat.reduceLeDiff, reduceCtorEq]
                      (refine hK _ ?_; clear hK; clear K)
                      refine d_one fun K hK => ?_
                      simp (maxSteps := 2000000) only [vm, vr, q3, vw, reduceIte, Nat.reduceEqDiff, Nat.reduceLeDiff, reduceCtorEq]
                      (refine hK _ ?_; clear hK; clear K)
                      refine d_one fun K hK => ?_
                      simp (maxSteps := 2000000) only [vm, vr, q3, vw, reduceIte, Nat.reduceEqDiff, Nat.reduceLeDiff, reduceCtorEq]
                      (refine hK _ ?_; clear hK; clear K)
                      refine d_one fun K hK => ?_
                      simp (maxSteps := 2000000) only [vm, vr, e1, vw, reduceIte, Nat.reduceEqDiff]
                      (refine hK _ ?_; clear hK; clear K)
                      refine d_one fun K hK => ?_
                      simp (maxSteps := 2000000) only [vm, vr, vw, reduceIte, Nat.reduceEqDiff]
                      (refine hK _ ?_; clear hK; clear K)
                      refine d_oneg fun K hK => ?_
                      simp (maxSteps := 2000000) only [vm, vr, reduceIte, Nat.reduceEqDiff]
                      simp (maxSteps := 2000000) only [vm, vw, reduceIte, Nat.reduceEqDiff]
                      (refine hK _ ?_; clear hK; clear K)
                      refine d_one fun K hK => ?_
                      simp (maxSteps := 2000000) only [vm, vr, vw, reduceIte, Nat.reduceEqDiff]
                      (refine hK _ ?_; clear hK; clear K)
                      refine d_one fun K hK => ?_
                      simp (maxSteps := 2000000) only [vm, vr, vw, reduceIte, Nat.reduceEqDiff]
                      (refine hK _ ?_; clear hK; clear K)
                      refine d_oneg fun K hK => ?_
                      simp (maxSteps := 2000000) only [vm, vr, reduceIte, Nat.reduceEqDiff]
                      (refine hK _ ?_; clear hK; clear K)
                      refine d_oneg fun K hK => ?_
                      simp (maxSteps := 2000000) only [vm, vr, reduceIte, Nat.reduceEqDiff]
                      (refine hK _ ?_; clear hK; clear K)
                      refine d_oneg fun K hK => ?_
                      simp (maxSteps := 2000000) only [vm, vr, reduceIte, Nat.reduceEqDiff]
                      (refine hK _ ?_; clear hK; clear K)
                      refine d_oneg fun K hK => ?_
                      simp (maxSteps := 2000000) only [vm, vr, reduceIte, Nat.reduceEqDiff]
                      (refine hK _ ?_; clear hK; clear K)
                      refine d_oneg fun K hK => ?_
                      simp (maxSteps := 2000000) only [vm, vr, reduceIte, Nat.reduceEqDiff]
                      (refine hK _ ?_; clear hK; clear K)
                      simp (maxSteps := 2000000) only [vm, vr, reduceIte, Nat.reduceEqDiff]
                      (refine draw_ok (by decide +kernel) (hK _ ?_); clear hK; clear K)
                      refine vcode_if _ rfl (fun hb12 => ?_) (fun hb12 => ?_) <;> (have hp12 := hb12; try simp only [] at hp12)
                      cases hb12
                      refine c_skip1 ?_
                      simp only [thenV_n, blockV_n]
                      refine c_reg1 fun K hK => ?_
                      simp (maxSteps := 2000000) only [vm, vr, reduceIte, Nat.reduceEqDiff]
                      (simp (disch := omega) only [wr64]; try simp (maxSteps := 2000000) only [vm, vr, vt, vp, q3, mapstd, km, e1, e2, hb1, hb2, hb3, hb4, hb5, hb6, hb7, hb8, hb9, hb10, hb11, hb12, Int.reduceBNe, Int.reduceBEq, Int.reduceLT, Int.reduceLE, Int.reduceGT, Int.reduceGE, decide_true, decide_false, bne_self_eq_false, beq_self_eq_true, reduceIte, Nat.reduceEqDiff, Nat.reduceAdd, Nat.reduceLeDiff, Nat.reduceMul, Nat.reduceLT, reduceCtorEq])
                      (refine hK _ ?_; clear hK; clear K)
                      simp only [thenV_n]
                      rotate_left
                      cases hb11
                      refine ⟨i + 1, ?_, by omega, by omega⟩
                      ((show Wk _ _ _; simp only [vm, vmk, reduceIte, Nat.reduceEqDiff, Nat.reduceAdd, Nat.reduceLT, reduceCtorEq]; (try simp (disch := omega) only [wr64]); try omega))
                    | true =>
                      have e3 := hfi (by have := beq_iff_eq.1 e1; omega) e2 i hil
                      refine c_assoc ?_
                      refine c_reg fun K hK => ?_
                      simp (maxSteps := 2000000) only [vm, vr, q3, km, reduceIte, Nat.reduceEqDiff, Nat.reduceAdd, Nat.reduceLeDiff, reduceCtorEq]
                      (refine hK _ ?_; clear hK; clear K)
                      refine c_if _ rfl (fun hb11 => ?_) (fun hb11 => ?_) <;> (have hp11 := hb11; try simp only [] at hp11)
                      refine c_skip ?_
                      refine c_block ?_
                      refine c_draw fun K hK => ?_
                      refine d_one fun K hK => ?_
                      simp (maxSteps := 2000000) only [vm, q3, vw, reduceIte, Nat.reduceEqDiff, Nat.reduceLeDiff, reduceCtorEq]
                      (refine hK _ ?_; clear hK; clear K)
                      refine d_one fun K hK => ?_
                      simp (maxSteps := 2000000) only [vm, vr, q3, vw, reduceIte, Nat.reduceEqDiff, Nat.reduceLeDiff, reduceCtorEq]
                      (refine hK _ ?_; clear hK; clear K)
                      refine d_one fun K hK => ?_
                      simp (maxSteps := 2000000) only [vm, vr, q3, vw, reduceIte, Nat.reduceEqDiff, Nat.reduceLeDiff, reduceCtorEq]
                      (refine hK _ ?_; clear hK; clear K)
                      refine d_one fun K hK => ?_
                      simp (maxSteps := 2000000) only [vm, vr, q3, vw, reduceIte, Nat.reduceEqDiff, Nat.reduceLeDiff, reduceCtorEq]
                      (refine hK _ ?_; clear hK; clear K)
                      refine d_one fun K hK => ?_
                      simp (maxSteps := 2000000) only [vm, vr, e1, vw, reduceIte, Nat.reduceEqDiff]
                      (refine hK _ ?_; clear hK; clear K)
                      refine d_one fun K hK => ?_
                      simp (maxSteps := 2000000) only [vm, vr, vw, reduceIte, Nat.reduceEqDiff]
                      (refine hK _ ?_; clear hK; clear K)
                      refine d_oneg fun K hK => ?_
                      simp (maxSteps := 2000000) only [vm, vr, reduceIte, Nat.reduceEqDiff]
                      simp (maxSteps := 2000000) only [vm, vw, reduceIte, Nat.reduceEqDiff]
                      (refine hK _ ?_; clear hK; clear K)
                      refine d_one fun K hK => ?_
                      simp (maxSteps := 2000000) only [vm, vr, vw, reduceIte, Nat.reduceEqDiff]
                      (refine hK _ ?_; clear hK; clear K)
                      refine d_one fun K hK => ?_
                      simp (maxSteps := 2000000) only [vm, vr, vw, reduceIte, Nat.reduceEqDiff]
                      (refine hK _ ?_; clear hK; clear K)
                      refine d_oneg fun K hK => ?_
                      simp (maxSteps := 2000000) only [vm, vr, reduceIte, Nat.reduceEqDiff]
                      simp (maxSteps := 2000000) only [vm, q3, vw, reduceIte, Nat.reduceEqDiff, Nat.reduceAdd, Nat.reduceLeDiff, reduceCtorEq]
                      (refine hK _ ?_; clear hK; clear K)
                      refine d_oneg fun K hK => ?_
                      simp (maxSteps := 2000000) only [vm, vr, reduceIte, Nat.reduceEqDiff]
                      simp (maxSteps := 2000000) only [vm, q3, vw, reduceIte, Nat.reduceEqDiff, Nat.reduceAdd, Nat.reduceLeDiff, reduceCtorEq]
                      (refine hK _ ?_; clear hK; clear K)
                      refine d_oneg fun K hK => ?_
                      simp (maxSteps := 2000000) only [vm, vr, reduceIte, Nat.reduceEqDiff]
                      simp (maxSteps := 2000000) only [vm, q3, vw, reduceIte, Nat.reduceEqDiff, Nat.reduceAdd, Nat.reduceLeDiff, reduceCtorEq]
                      (refine hK _ ?_; clear hK; clear K)
                      refine d_oneg fun K hK => ?_
                      simp (maxSteps := 2000000) only [vm, vr, reduceIte, Nat.reduceEqDiff]
                      simp (maxSteps := 2000000) only [vm, q3, vw, reduceIte, Nat.reduceEqDiff, Nat.reduceAdd, Nat.reduceLeDiff, reduceCtorEq]
                      (refine hK _ ?_; clear hK; clear K)
                      refine d_oneg fun K hK => ?_
                      simp (maxSteps := 2000000) only [vm, vr, reduceIte, Nat.reduceEqDiff]
                      simp (maxSteps := 2000000) only [vm, vw, reduceIte, Nat.reduceEqDiff]
                      (refine hK _ ?_; clear hK; clear K)
                      simp (maxSteps := 2000000) only [vm, vr, q3, reduceIte, Nat.reduceEqDiff]
                      (refine atI_map 0 (by first | assumption | omega | (simp; done) | (simp; omega)) (by first | assumption | omega | (simp; done) | (simp; omega)) ?_; simp (maxSteps := 2000000) only [vm, vr, q3])
                      (apply d_call (spec13 _ _ ?s24101x1); (case hf => rfl); (case hq => (simp (maxSteps := 2000000) only [vm, reduceIte, Nat.reduceEqDiff]; rfl)); (case hvs => rfl); (case s24101x1 => first | assumption | omega | (simp; done) | (simp; omega)))
                      simp (maxSteps := 2000000) only [vm, vr, e3, reduceIte, Nat.reduceEqDiff]
                      (refine draw_ok (by decide +kernel) (hK _ ?_); clear hK; clear K)
                      refine vcode_if _ rfl (fun hb12 => ?_) (fun hb12 => ?_) <;> (have hp12 := hb12; try simp only [] at hp12)
                      cases hb12
                      refine c_skip1 ?_
                      simp only [thenV_n, blockV_n]
                      refine c_reg1 fun K hK => ?_
                      simp (maxSteps := 2000000) only [vm, vr, reduceIte, Nat.reduceEqDiff]
                      (simp (disch := omega) only [wr64]; try simp (maxSteps := 2000000) only [vm, vr, vt, vp, q3, mapstd, km, e1, e2, e3, hb1, hb2, hb3, hb4, hb5, hb6, hb7, hb8, hb9, hb10, hb11, hb12, Int.reduceBNe, Int.reduceBEq, Int.reduceLT, Int.reduceLE, Int.reduceGT, Int.reduceGE, decide_true, decide_false, bne_self_eq_false, beq_self_eq_true, reduceIte, Nat.reduceEqDiff, Nat.reduceAdd, Nat.reduceLeDiff, Nat.reduceMul, Nat.reduceLT, reduceCtorEq])
                      (refine hK _ ?_; clear hK; clear K)
                      simp only [thenV_n]
                      rotate_left
                      cases hb11
                      refine ⟨i + 1, ?_, by omega, by omega⟩
                      ((show Wk _ _ _; simp only [vm, vmk, reduceIte, Nat.reduceEqDiff, Nat.reduceAdd, Nat.reduceLT, reduceCtorEq]; (try simp (disch := omega) only [wr64]); try omega))
                · have km : decide ((i : Int) < (C.length : Int)) = false := decide_eq_false_iff_not.2 (by omega)
                  refine c_assoc ?_
                  refine c_reg fun K hK => ?_
                  simp (maxSteps := 2000000) only [vm, vr, q3, km, reduceIte, Nat.reduceEqDiff, Nat.reduceAdd, Nat.reduceLeDiff, reduceCtorEq]
                  (refine hK _ ?_; clear hK; clear K)
                  refine c_if _ rfl (fun hb11 => ?_) (fun hb11 => ?_) <;> (have hp11 := hb11; try simp only [] at hp11)
                  cases hb11
                  refine c_exit ?_
                  simp only [thenV_n, thenV_e, blockV_e, reduceIte]
                  refine c_reg fun K hK => ?_
                  simp (maxSteps := 2000000) only [vm, vr]
                  (refine hK _ ?_; clear hK; clear K)
                  refine c_ret1 ?_
                  simp (maxSteps := 2000000) only [vm, vr, reduceIte, Nat.reduceEqDiff]
          | false =>
            simp only [Bool.not_false] at hoth
            have ho3 := go true true _ hoth
            rw [show rulV (lifR r k true true) = .agg [nn r.width, nn r.start, nn r.finish, nn r.hlo, nn r.hhi, nn r.cold, .sl ((lifR r k true true).stands.map stdV), nn r.slo, nn r.shi, nn r.flo, nn r.fhi] from rfl, lif_std] at ho3
            have hs10w3 : Sp0 10 [.agg [nn r.width, nn r.start, nn r.finish, nn r.hlo, nn r.hhi, nn r.cold, .sl ((r.stands.map stdV).set k (.agg [nn (r.stands.getD k default).rad, nn 1000000000000, nn 1000000000000, nn (r.stands.getD k default).llo, nn (r.stands.getD k default).lhi])), nn r.slo, nn r.shi, nn r.flo, nn r.fhi], nn g] (R.v2 (.agg [nn k, .sl ((cI S2).map nn)]) (nn 0)) := ho3
            clear ho3
            have hC2 := hlen _ _ _ _ hoth
            generalize cI S2 = C2 at *
            have hfi : k = k → allV A = true → ∀ i, i < A.length → (A.any fun x => x == A.getD i 0) = false := fun _ ha => by
              have := hfin S hid ha
              rw [hA] at this; exact this
            refine c_assoc ?_
            refine c_reg fun K hK => ?_
            simp (maxSteps := 2000000) only [vm, vr, q3, kl, reduceIte, Nat.reduceEqDiff, Nat.reduceAdd, Nat.reduceLeDiff, reduceCtorEq]
            (refine hK _ ?_; clear hK; clear K)
            refine c_if _ rfl (fun hb6 => ?_) (fun hb6 => ?_) <;> (have hp6 := hb6; try simp only [] at hp6)
            cases hb6
            refine c_exit ?_
            simp only [thenV_n, thenV_e, blockV_e, reduceIte]
            refine c_assoc ?_
            refine c_reg fun K hK => ?_
            simp (maxSteps := 2000000) only [vm, vr, q3, reduceIte, Nat.reduceEqDiff, Nat.reduceAdd, Nat.reduceLeDiff, reduceCtorEq]
            (apply s_call (spec13 _ _ ?s25701x1); (case hf => rfl); (case hq => (simp (maxSteps := 2000000) only [vm, reduceIte, Nat.reduceEqDiff]; rfl)); (case hvs => rfl); (case s25701x1 => first | assumption | omega | (simp; done) | (simp; omega)))
            simp (maxSteps := 2000000) only [vm, vr, hf]
            (refine hK _ ?_; clear hK; clear K)
            refine c_if _ rfl (fun hb7 => ?_) (fun hb7 => ?_) <;> (have hp7 := hb7; try simp only [] at hp7)
            cases hb7
            refine c_reg fun K hK => ?_
            simp (maxSteps := 2000000) only [vm, vr, q3, reduceIte, Nat.reduceEqDiff, Nat.reduceAdd, Nat.reduceLeDiff, reduceCtorEq]
            refine need_by (by first | assumption | omega | (simp; done) | (simp; omega)) ?_
            (refine want_map default (by first | assumption | omega | (simp; done) | (simp; omega)) ?_; simp (maxSteps := 2000000) only [vm, vr, Nat.reduceAdd, Nat.reduceLeDiff])
            (refine hK _ ?_; clear hK; clear K)
            refine c_assoc ?_
            refine c_reg fun K hK => ?_
            simp (maxSteps := 2000000) only [vm, vr, q3, reduceIte, Nat.reduceEqDiff, Nat.reduceAdd, Nat.reduceLeDiff, reduceCtorEq]
            (apply s_call (spec13 _ _ ?s25702x1); (case hf => rfl); (case hq => (simp (maxSteps := 2000000) only [vm, reduceIte, Nat.reduceEqDiff]; rfl)); (case hvs => rfl); (case s25702x1 => first | assumption | omega | (simp; done) | (simp; omega)))
            simp (maxSteps := 2000000) only [vm, vr, ht]
            (refine hK _ ?_; clear hK; clear K)
            refine c_if _ rfl (fun hb8 => ?_) (fun hb8 => ?_) <;> (have hp8 := hb8; try simp only [] at hp8)
            cases hb8
            refine c_reg fun K hK => ?_
            simp (maxSteps := 2000000) only [vm, vr, vt, q3, hx, List.set_set, reduceIte, Nat.reduceEqDiff, Nat.reduceAdd, Nat.reduceLeDiff, reduceCtorEq]
            refine need_by (by first | assumption | omega | (simp; done) | (simp; omega)) ?_
            (refine hK _ ?_; clear hK; clear K)
            refine c_assoc ?_
            refine c_reg fun K hK => ?_
            simp (maxSteps := 2000000) only [vm, vr, vp, q3, reduceIte, Nat.reduceEqDiff, Nat.reduceAdd, Nat.reduceLeDiff, reduceCtorEq]
            (apply s_call2 (hs10w3); (case hf => rfl); (case hq => (simp (maxSteps := 2000000) only [vm, vr, reduceIte, Nat.reduceEqDiff, reduceCtorEq]; rfl)); (case hvs => rfl))
            simp (maxSteps := 2000000) only [vm, vr, q3, reduceIte, Nat.reduceEqDiff, Nat.reduceAdd, Nat.reduceLeDiff, reduceCtorEq]
            refine need_by (by first | assumption | omega | (simp; done) | (simp; omega)) ?_
            (refine hK _ ?_; clear hK; clear K)
            refine c_assoc ?_
            refine c_reg fun K hK => ?_
            simp (maxSteps := 2000000) only [vm, vr, q3, bne_self_eq_false, reduceIte, Nat.reduceEqDiff, Nat.reduceLeDiff, reduceCtorEq]
            (refine hK _ ?_; clear hK; clear K)
            refine c_if _ rfl (fun hb9 => ?_) (fun hb9 => ?_) <;> (have hp9 := hb9; try simp only [] at hp9)
            cases hb9
            refine c_skip ?_
            refine c_reg fun K hK => ?_
            simp (maxSteps := 2000000) only [vm, vr, vp, q3, reduceIte, Nat.reduceEqDiff, Nat.reduceAdd, Nat.reduceLeDiff, reduceCtorEq]
            (apply s_call2 (hs10); (case hf => rfl); (case hq => (simp (maxSteps := 2000000) only [vm, vr, reduceIte, Nat.reduceEqDiff, reduceCtorEq]; rfl)); (case hvs => rfl))
            simp (maxSteps := 2000000) only [vm, vr, q3, reduceIte, Nat.reduceEqDiff, Nat.reduceAdd, Nat.reduceLeDiff, reduceCtorEq]
            refine need_by (by first | assumption | omega | (simp; done) | (simp; omega)) ?_
            (refine hK _ ?_; clear hK; clear K)
            refine c_assoc ?_
            refine c_reg fun K hK => ?_
            simp (maxSteps := 2000000) only [vm, vr, bne_self_eq_false, reduceIte, Nat.reduceEqDiff]
            (refine hK _ ?_; clear hK; clear K)
            refine c_if _ rfl (fun hb10 => ?_) (fun hb10 => ?_) <;> (have hp10 := hb10; try simp only [] at hp10)
            cases hb10
            refine c_skip ?_
            refine c_assoc ?_
            refine c_reg fun K hK => ?_
            simp (maxSteps := 2000000) only [vm, vr]
            (refine hK _ ?_; clear hK; clear K)
            refine c_block ?_
            refine vcode_loop (fun i : Nat => [(4, L.p (V.b false)), (5, L.own 5 0), (9, L.p (V.b (allV A))), (13, L.own 13 0), (15, L.p (nn i))]) (fun _ => [(Key.b 13, M.box 2), (Key.c 13 0, M.cell (L.p (nn k))), (Key.c 13 1, M.cell (L.p (V.sl (List.map nn A)))), (Key.b 5, M.box 2), (Key.c 5 0, M.cell (L.p (nn k))), (Key.c 5 1, M.cell (L.p (V.sl (List.map nn A))))]) (fun i => i ≤ A.length) (fun i => A.length - i) 0 (Nat.zero_le _) ?_ ?_
            · simp (maxSteps := 2000000) only [vm, vmk, reduceIte, Nat.reduceEqDiff, Nat.reduceAdd, Nat.reduceLT, reduceCtorEq]
            · intro i hi
              rcases Nat.lt_or_ge i A.length with hil | hil
              · have km : decide ((i : Int) < (A.length : Int)) = true := decide_eq_true (by omega)
                cases e1 : ((k : Int) == (k : Int)) with
                | false =>
                  refine c_assoc ?_
                  refine c_reg fun K hK => ?_
                  simp (maxSteps := 2000000) only [vm, vr, q3, km, reduceIte, Nat.reduceEqDiff, Nat.reduceAdd, Nat.reduceLeDiff, reduceCtorEq]
                  (refine hK _ ?_; clear hK; clear K)
                  refine c_if _ rfl (fun hb11 => ?_) (fun hb11 => ?_) <;> (have hp11 := hb11; try simp only [] at hp11)
                  refine c_skip ?_
                  refine c_block ?_
                  refine c_draw fun K hK => ?_
                  refine d_one fun K hK => ?_
                  simp (maxSteps := 2000000) only [vm, q3, vw, reduceIte, Nat.reduceEqDiff, Nat.reduceLeDiff, reduceCtorEq]
                  (refine hK _ ?_; clear hK; clear K)
                  refine d_one fun K hK => ?_
                  simp (maxSteps := 2000000) only [vm, vr, q3, vw, reduceIte, Nat.reduceEqDiff, Nat.reduceLeDiff, reduceCtorEq]
                  (refine hK _ ?_; clear hK; clear K)
                  refine d_one fun K hK => ?_
                  simp (maxSteps := 2000000) only [vm, vr, q3, vw, reduceIte, Nat.reduceEqDiff, Nat.reduceLeDiff, reduceCtorEq]
                  (refine hK _ ?_; clear hK; clear K)
                  refine d_one fun K hK => ?_
                  simp (maxSteps := 2000000) only [vm, vr, q3, vw, reduceIte, Nat.reduceEqDiff, Nat.reduceLeDiff, reduceCtorEq]
                  (refine hK _ ?_; clear hK; clear K)
                  refine d_one fun K hK => ?_
                  simp (maxSteps := 2000000) only [vm, vr, e1, vw, reduceIte, Nat.reduceEqDiff]
                  (refine hK _ ?_; clear hK; clear K)
                  refine d_one fun K hK => ?_
                  simp (maxSteps := 2000000) only [vm, vr, vw, reduceIte, Nat.reduceEqDiff]
                  (refine hK _ ?_; clear hK; clear K)
                  refine d_oneg fun K hK => ?_
                  simp (maxSteps := 2000000) only [vm, vr, reduceIte, Nat.reduceEqDiff]
                  (refine hK _ ?_; clear hK; clear K)
                  refine d_one fun K hK => ?_
                  simp (maxSteps := 2000000) only [vm, vr, vw, reduceIte, Nat.reduceEqDiff]
                  (refine hK _ ?_; clear hK; clear K)
                  refine d_one fun K hK => ?_
                  simp (maxSteps := 2000000) only [vm, vr, vw, reduceIte, Nat.reduceEqDiff]
                  (refine hK _ ?_; clear hK; clear K)
                  refine d_oneg fun K hK => ?_
                  simp (maxSteps := 2000000) only [vm, vr, reduceIte, Nat.reduceEqDiff]
                  (refine hK _ ?_; clear hK; clear K)
                  refine d_oneg fun K hK => ?_
                  simp (maxSteps := 2000000) only [vm, vr, reduceIte, Nat.reduceEqDiff]
                  (refine hK _ ?_; clear hK; clear K)
                  refine d_oneg fun K hK => ?_
                  simp (maxSteps := 2000000) only [vm, vr, reduceIte, Nat.reduceEqDiff]
                  (refine hK _ ?_; clear hK; clear K)
                  refine d_oneg fun K hK => ?_
                  simp (maxSteps := 2000000) only [vm, vr, reduceIte, Nat.reduceEqDiff]
                  (refine hK _ ?_; clear hK; clear K)
                  refine d_oneg fun K hK => ?_
                  simp (maxSteps := 2000000) only [vm, vr, reduceIte, Nat.reduceEqDiff]
                  (refine hK _ ?_; clear hK; clear K)
                  simp (maxSteps := 2000000) only [vm, vr, reduceIte, Nat.reduceEqDiff]
                  (refine draw_ok (by decide +kernel) (hK _ ?_); clear hK; clear K)
                  refine vcode_if _ rfl (fun hb12 => ?_) (fun hb12 => ?_) <;> (have hp12 := hb12; try simp only [] at hp12)
                  cases hb12
                  refine c_skip1 ?_
                  simp only [thenV_n, blockV_n]
                  refine c_reg1 fun K hK => ?_
                  simp (maxSteps := 2000000) only [vm, vr, reduceIte, Nat.reduceEqDiff]
                  (simp (disch := omega) only [wr64]; try simp (maxSteps := 2000000) only [vm, vr, vt, vp, q3, mapstd, km, e1, hb1, hb2, hb3, hb4, hb5, hb6, hb7, hb8, hb9, hb10, hb11, hb12, Int.reduceBNe, Int.reduceBEq, Int.reduceLT, Int.reduceLE, Int.reduceGT, Int.reduceGE, decide_true, decide_false, bne_self_eq_false, beq_self_eq_true, reduceIte, Nat.reduceEqDiff, Nat.reduceAdd, Nat.reduceLeDiff, Nat.reduceMul, Nat.reduceLT, reduceCtorEq])
                  (refine hK _ ?_; clear hK; clear K)
                  simp only [thenV_n]
                  rotate_left
                  cases hb11
                  refine ⟨i + 1, ?_, by omega, by omega⟩
                  ((show Wk _ _ _; simp only [vm, vmk, reduceIte, Nat.reduceEqDiff, Nat.reduceAdd, Nat.reduceLT, reduceCtorEq]; (try simp (disch := omega) only [wr64]); try omega))
                | true =>
                  cases e2 : allV A with
                  | false =>
                    refine c_assoc ?_
                    refine c_reg fun K hK => ?_
                    simp (maxSteps := 2000000) only [vm, vr, q3, km, reduceIte, Nat.reduceEqDiff, Nat.reduceAdd, Nat.reduceLeDiff, reduceCtorEq]
                    (refine hK _ ?_; clear hK; clear K)
                    refine c_if _ rfl (fun hb11 => ?_) (fun hb11 => ?_) <;> (have hp11 := hb11; try simp only [] at hp11)
                    refine c_skip ?_
                    refine c_block ?_
                    refine c_draw fun K hK => ?_
                    refine d_one fun K hK => ?_
                    simp (maxSteps := 2000000) only [vm, q3, vw, reduceIte, Nat.reduceEqDiff, Nat.reduceLeDiff, reduceCtorEq]
                    (refine hK _ ?_; clear hK; clear K)
                    refine d_one fun K hK => ?_
                    simp (maxSteps := 2000000) only [vm, vr, q3, vw, reduceIte, Nat.reduceEqDiff, Nat.reduceLeDiff, reduceCtorEq]
                    (refine hK _ ?_; clear hK; clear K)
                    refine d_one fun K hK => ?_
                    simp (maxSteps := 2000000) only [vm, vr, q3, vw, reduceIte, Nat.reduceEqDiff, Nat.reduceLeDiff, reduceCtorEq]
                    (refine hK _ ?_; clear hK; clear K)
                    refine d_one fun K hK => ?_
                    simp (maxSteps := 2000000) only [vm, vr, q3, vw, reduceIte, Nat.reduceEqDiff, Nat.reduceLeDiff, reduceCtorEq]
                    (refine hK _ ?_; clear hK; clear K)
                    refine d_one fun K hK => ?_
                    simp (maxSteps := 2000000) only [vm, vr, e1, vw, reduceIte, Nat.reduceEqDiff]
                    (refine hK _ ?_; clear hK; clear K)
                    refine d_one fun K hK => ?_
                    simp (maxSteps := 2000000) only [vm, vr, vw, reduceIte, Nat.reduceEqDiff]
                    (refine hK _ ?_; clear hK; clear K)
                    refine d_oneg fun K hK => ?_
                    simp (maxSteps := 2000000) only [vm, vr, reduceIte, Nat.reduceEqDiff]
                    simp (maxSteps := 2000000) only [vm, vw, reduceIte, Nat.reduceEqDiff]
                    (refine hK _ ?_; clear hK; clear K)
                    refine d_one fun K hK => ?_
                    simp (maxSteps := 2000000) only [vm, vr, vw, reduceIte, Nat.reduceEqDiff]
                    (refine hK _ ?_; clear hK; clear K)
                    refine d_one fun K hK => ?_
                    simp (maxSteps := 2000000) only [vm, vr, vw, reduceIte, Nat.reduceEqDiff]
                    (refine hK _ ?_; clear hK; clear K)
                    refine d_oneg fun K hK => ?_
                    simp (maxSteps := 2000000) only [vm, vr, reduceIte, Nat.reduceEqDiff]
                    (refine hK _ ?_; clear hK; clear K)
                    refine d_oneg fun K hK => ?_
                    simp (maxSteps := 2000000) only [vm, vr, reduceIte, Nat.reduceEqDiff]
                    (refine hK _ ?_; clear hK; clear K)
                    refine d_oneg fun K hK => ?_
                    simp (maxSteps := 2000000) only [vm, vr, reduceIte, Nat.reduceEqDiff]
                    (refine hK _ ?_; clear hK; clear K)
                    refine d_oneg fun K hK => ?_
                    simp (maxSteps := 2000000) only [vm, vr, reduceIte, Nat.reduceEqDiff]
                    (refine hK _ ?_; clear hK; clear K)
                    refine d_oneg fun K hK => ?_
                    simp (maxSteps := 2000000) only [vm, vr, reduceIte, Nat.reduceEqDiff]
                    (refine hK _ ?_; clear hK; clear K)
                    simp (maxSteps := 2000000) only [vm, vr, reduceIte, Nat.reduceEqDiff]
                    (refine draw_ok (by decide +kernel) (hK _ ?_); clear hK; clear K)
                    refine vcode_if _ rfl (fun hb12 => ?_) (fun hb12 => ?_) <;> (have hp12 := hb12; try simp only [] at hp12)
                    cases hb12
                    refine c_skip1 ?_
                    simp only [thenV_n, blockV_n]
                    refine c_reg1 fun K hK => ?_
                    simp (maxSteps := 2000000) only [vm, vr, reduceIte, Nat.reduceEqDiff]
                    (simp (disch := omega) only [wr64]; try simp (maxSteps := 2000000) only [vm, vr, vt, vp, q3, mapstd, km, e1, e2, hb1, hb2, hb3, hb4, hb5, hb6, hb7, hb8, hb9, hb10, hb11, hb12, Int.reduceBNe, Int.reduceBEq, Int.reduceLT, Int.reduceLE, Int.reduceGT, Int.reduceGE, decide_true, decide_false, bne_self_eq_false, beq_self_eq_true, reduceIte, Nat.reduceEqDiff, Nat.reduceAdd, Nat.reduceLeDiff, Nat.reduceMul, Nat.reduceLT, reduceCtorEq])
                    (refine hK _ ?_; clear hK; clear K)
                    simp only [thenV_n]
                    rotate_left
                    cases hb11
                    refine ⟨i + 1, ?_, by omega, by omega⟩
                    ((show Wk _ _ _; simp only [vm, vmk, reduceIte, Nat.reduceEqDiff, Nat.reduceAdd, Nat.reduceLT, reduceCtorEq]; (try simp (disch := omega) only [wr64]); try omega))
                  | true =>
                    have e3 := hfi (by have := beq_iff_eq.1 e1; omega) e2 i hil
                    refine c_assoc ?_
                    refine c_reg fun K hK => ?_
                    simp (maxSteps := 2000000) only [vm, vr, q3, km, reduceIte, Nat.reduceEqDiff, Nat.reduceAdd, Nat.reduceLeDiff, reduceCtorEq]
                    (refine hK _ ?_; clear hK; clear K)
                    refine c_if _ rfl (fun hb11 => ?_) (fun hb11 => ?_) <;> (have hp11 := hb11; try simp only [] at hp11)
                    refine c_skip ?_
                    refine c_block ?_
                    refine c_draw fun K hK => ?_
                    refine d_one fun K hK => ?_
                    simp (maxSteps := 2000000) only [vm, q3, vw, reduceIte, Nat.reduceEqDiff, Nat.reduceLeDiff, reduceCtorEq]
                    (refine hK _ ?_; clear hK; clear K)
                    refine d_one fun K hK => ?_
                    simp (maxSteps := 2000000) only [vm, vr, q3, vw, reduceIte, Nat.reduceEqDiff, Nat.reduceLeDiff, reduceCtorEq]
                    (refine hK _ ?_; clear hK; clear K)
                    refine d_one fun K hK => ?_
                    simp (maxSteps := 2000000) only [vm, vr, q3, vw, reduceIte, Nat.reduceEqDiff, Nat.reduceLeDiff, reduceCtorEq]
                    (refine hK _ ?_; clear hK; clear K)
                    refine d_one fun K hK => ?_
                    simp (maxSteps := 2000000) only [vm, vr, q3, vw, reduceIte, Nat.reduceEqDiff, Nat.reduceLeDiff, reduceCtorEq]
                    (refine hK _ ?_; clear hK; clear K)
                    refine d_one fun K hK => ?_
                    simp (maxSteps := 2000000) only [vm, vr, e1, vw, reduceIte, Nat.reduceEqDiff]
                    (refine hK _ ?_; clear hK; clear K)
                    refine d_one fun K hK => ?_
                    simp (maxSteps := 2000000) only [vm, vr, vw, reduceIte, Nat.reduceEqDiff]
                    (refine hK _ ?_; clear hK; clear K)
                    refine d_oneg fun K hK => ?_
                    simp (maxSteps := 2000000) only [vm, vr, reduceIte, Nat.reduceEqDiff]
                    simp (maxSteps := 2000000) only [vm, vw, reduceIte, Nat.reduceEqDiff]
                    (refine hK _ ?_; clear hK; clear K)
                    refine d_one fun K hK => ?_
                    simp (maxSteps := 2000000) only [vm, vr, vw, reduceIte, Nat.reduceEqDiff]
                    (refine hK _ ?_; clear hK; clear K)
                    refine d_one fun K hK => ?_
                    simp (maxSteps := 2000000) only [vm, vr, vw, reduceIte, Nat.reduceEqDiff]
                    (refine hK _ ?_; clear hK; clear K)
                    refine d_oneg fun K hK => ?_
                    simp (maxSteps := 2000000) only [vm, vr, reduceIte, Nat.reduceEqDiff]
                    simp (maxSteps := 2000000) only [vm, q3, vw, reduceIte, Nat.reduceEqDiff, Nat.reduceAdd, Nat.reduceLeDiff, reduceCtorEq]
                    (refine hK _ ?_; clear hK; clear K)
                    refine d_oneg fun K hK => ?_
                    simp (maxSteps := 2000000) only [vm, vr, reduceIte, Nat.reduceEqDiff]
                    simp (maxSteps := 2000000) only [vm, q3, vw, reduceIte, Nat.reduceEqDiff, Nat.reduceAdd, Nat.reduceLeDiff, reduceCtorEq]
                    (refine hK _ ?_; clear hK; clear K)
                    refine d_oneg fun K hK => ?_
                    simp (maxSteps := 2000000) only [vm, vr, reduceIte, Nat.reduceEqDiff]
                    simp (maxSteps := 2000000) only [vm, q3, vw, reduceIte, Nat.reduceEqDiff, Nat.reduceAdd, Nat.reduceLeDiff, reduceCtorEq]
                    (refine hK _ ?_; clear hK; clear K)
                    refine d_oneg fun K hK => ?_
                    simp (maxSteps := 2000000) only [vm, vr, reduceIte, Nat.reduceEqDiff]
                    simp (maxSteps := 2000000) only [vm, q3, vw, reduceIte, Nat.reduceEqDiff, Nat.reduceAdd, Nat.reduceLeDiff, reduceCtorEq]
                    (refine hK _ ?_; clear hK; clear K)
                    refine d_oneg fun K hK => ?_
                    simp (maxSteps := 2000000) only [vm, vr, reduceIte, Nat.reduceEqDiff]
                    simp (maxSteps := 2000000) only [vm, vw, reduceIte, Nat.reduceEqDiff]
                    (refine hK _ ?_; clear hK; clear K)
                    simp (maxSteps := 2000000) only [vm, vr, q3, reduceIte, Nat.reduceEqDiff]
                    (refine atI_map 0 (by first | assumption | omega | (simp; done) | (simp; omega)) (by first | assumption | omega | (simp; done) | (simp; omega)) ?_; simp (maxSteps := 2000000) only [vm, vr, q3])
                    (apply d_call (spec13 _ _ ?s27601x1); (case hf => rfl); (case hq => (simp (maxSteps := 2000000) only [vm, reduceIte, Nat.reduceEqDiff]; rfl)); (case hvs => rfl); (case s27601x1 => first | assumption | omega | (simp; done) | (simp; omega)))
                    simp (maxSteps := 2000000) only [vm, vr, e3, reduceIte, Nat.reduceEqDiff]
                    (refine draw_ok (by decide +kernel) (hK _ ?_); clear hK; clear K)
                    refine vcode_if _ rfl (fun hb12 => ?_) (fun hb12 => ?_) <;> (have hp12 := hb12; try simp only [] at hp12)
                    cases hb12
                    refine c_skip1 ?_
                    simp only [thenV_n, blockV_n]
                    refine c_reg1 fun K hK => ?_
                    simp (maxSteps := 2000000) only [vm, vr, reduceIte, Nat.reduceEqDiff]
                    (simp (disch := omega) only [wr64]; try simp (maxSteps := 2000000) only [vm, vr, vt, vp, q3, mapstd, km, e1, e2, e3, hb1, hb2, hb3, hb4, hb5, hb6, hb7, hb8, hb9, hb10, hb11, hb12, Int.reduceBNe, Int.reduceBEq, Int.reduceLT, Int.reduceLE, Int.reduceGT, Int.reduceGE, decide_true, decide_false, bne_self_eq_false, beq_self_eq_true, reduceIte, Nat.reduceEqDiff, Nat.reduceAdd, Nat.reduceLeDiff, Nat.reduceMul, Nat.reduceLT, reduceCtorEq])
                    (refine hK _ ?_; clear hK; clear K)
                    simp only [thenV_n]
                    rotate_left
                    cases hb11
                    refine ⟨i + 1, ?_, by omega, by omega⟩
                    ((show Wk _ _ _; simp only [vm, vmk, reduceIte, Nat.reduceEqDiff, Nat.reduceAdd, Nat.reduceLT, reduceCtorEq]; (try simp (disch := omega) only [wr64]); try omega))
              · have km : decide ((i : Int) < (A.length : Int)) = false := decide_eq_false_iff_not.2 (by omega)
                refine c_assoc ?_
                refine c_reg fun K hK => ?_
                simp (maxSteps := 2000000) only [vm, vr, q3, km, reduceIte, Nat.reduceEqDiff, Nat.reduceAdd, Nat.reduceLeDiff, reduceCtorEq]
                (refine hK _ ?_; clear hK; clear K)
                refine c_if _ rfl (fun hb11 => ?_) (fun hb11 => ?_) <;> (have hp11 := hb11; try simp only [] at hp11)
                cases hb11
                refine c_exit ?_
                simp only [thenV_n, thenV_e, blockV_e, reduceIte]
                refine c_reg fun K hK => ?_
                simp (maxSteps := 2000000) only [vm, vr]
                (refine hK _ ?_; clear hK; clear K)
                refine c_ret1 ?_
                simp (maxSteps := 2000000) only [vm, vr, reduceIte, Nat.reduceEqDiff]
  · by_cases c3 : k + 1 < r.stands.length
    · have k3 : decide ((k : Int) < (r.stands.length : Int) - 1) = true := decide_eq_true (by omega)
      have k4 := hcold c3
      refine c_reg1 fun K hK => ?_
      simp (maxSteps := 2000000) only [vm, vr, q3, wl, k3, reduceIte, Nat.reduceEqDiff, Nat.reduceAdd, Nat.reduceLeDiff, reduceCtorEq]
      (apply s_call (spec13 _ _ ?s28401x1); (case hf => rfl); (case hq => (simp (maxSteps := 2000000) only [vm, reduceIte, Nat.reduceEqDiff, reduceCtorEq]; rfl)); (case hvs => rfl); (case s28401x1 => first | assumption | omega | (simp; done) | (simp; omega)))
      simp (maxSteps := 2000000) only [vm, vr, k4, reduceIte, Nat.reduceEqDiff, reduceCtorEq]
      (refine hK _ ?_; clear hK; clear K)
      simp only [thenV_n]
      refine ⟨(), ?_, trivial⟩
      ((show Wk _ _ _; simp only [vm, vmk, reduceIte, Nat.reduceEqDiff, Nat.reduceAdd, Nat.reduceLT, reduceCtorEq]; (try simp (disch := omega) only [wr64]); try omega))
    · have k3 : decide ((k : Int) < (r.stands.length : Int) - 1) = false := decide_eq_false (by omega)
      refine c_reg1 fun K hK => ?_
      simp (maxSteps := 2000000) only [vm, vr, q3, wl, k3, reduceIte, Nat.reduceEqDiff, Nat.reduceAdd, Nat.reduceLeDiff, reduceCtorEq]
      (refine hK _ ?_; clear hK; clear K)
      simp only [thenV_n]
      refine ⟨(), ?_, trivial⟩
      ((show Wk _ _ _; simp only [vm, vmk, reduceIte, Nat.reduceEqDiff, Nat.reduceAdd, Nat.reduceLT, reduceCtorEq]; (try simp (disch := omega) only [wr64]); try omega))
end Go.Vm
