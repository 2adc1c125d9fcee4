import Derived.Test.YtomnkckbmnbilaaDoorWpZx
import Derived.Test.YtomnkckbmnbilaaDoorVmBC
import Derived.Test.YtomnkckbmnbilaaDoorWpLe
set_option linter.all false
namespace Go.Vm
open Go.Proofs
set_option maxRecDepth 20000
set_option maxHeartbeats 8000000
--DEF RUL = nn r.width; nn r.start; nn r.finish; nn r.hlo; nn r.hhi; nn r.cold; V.sl (r.stands.map stdV); nn r.slo; nn r.shi; nn r.flo; nn r.fhi
--DEF SCH = V.s s.name; V.sl (s.ths.map nn)
--DEF MAT = nn m.stress; nn m.friction; nn m.heat; V.sl (m.losses.map nn)
--DEF Q = q6
theorem elaw_ok (r : PRules) (s : PSched) (m : PMat) (h : fewV r s = true) (hB : (bothE r s).2 = 0) (hm : m.losses.length = r.stands.length) (hM : (matE r m).2 = 0) : Sp0 6 [rulV r, schV s, matV m] (R.v (.b true)) := by
 obtain ⟨hl, hn, hs⟩ := few_ok h
 obtain ⟨hr, hS⟩ := both_ok hB
 have hmm : m.losses.length < 1000000 := by omega
 have hMo := mat_ok hM
 have o1 := one_ok hr hMo
 have o2 := sch_one (m := m) hS
 have e2 : matB r m = matE r m := matB0 (by by_cases c : (rulesE r).2 = 0; exact c; rw [bothE1 c] at hB; exact hB)
 have h5 : (matB r m).2 = 0 := by rw [e2]; exact hM
 have k1 : ((bothE r s).2 != 0) = false := by simpa using hB
 have k2 : ((matE r m).2 != 0) = false := by simpa using hM
 have hsl := hS.len
 have hrl := hr.len
 have hLl : (matL r s m s.ths.length).length = s.ths.length := matL_len
 have hHl : (heaL r s).length = s.ths.length := by unfold heaL; rw [List.length_map, drs_len]
 have k3 : (((matL r s m s.ths.length).length : Int) != (r.stands.length : Int)) = false := by simp; omega
 have k4 : (((heaL r s).length : Int) != ((matL r s m s.ths.length).length : Int)) = false := by simp; omega
 obtain ⟨A, hA⟩ : ∃ A, ansV (margs r s s.ths.length) = A := ⟨_, rfl⟩
 obtain ⟨k, gK⟩ : ∃ k, keepV r s m s.ths.length = k := ⟨_, rfl⟩
 have hs36 : Sp0 36 [rulV r, schV s] (R.v2 (nn A) (nn 0)) := by have := spec36w2 r s hl hn hs hB hr hS; rw [hA] at this; exact this
 have hs14 : Sp0 14 [rulV r, schV s, matV m] (R.v3 (.sl ((matL r s m s.ths.length).map p2)) (.b k) (nn 0)) := by have := spec14w3 r s m hl hn hs hmm hB hr hS h5 hMo o1 o2; rw [gK] at this; exact this
 refine spec_of mixed (fun _ _ _ h => h) Tryd.func6 (by decide +kernel) rfl (rs := _) rfl (by rfl) rfl (by simp [Tryd.f6]) (by decide +kernel) ?_; simp only [argsG, Nat.zero_add, Nat.reduceAdd]
 refine c_reg fun K hK => ?_
 simp only [vm, vr, reduceIte, Nat.reduceEqDiff, Nat.reduceAdd, reduceCtorEq]
 refine need_by (by first | assumption | omega | (simp; done) | (simp; omega)) ?_
 refine need_by (by first | assumption | omega | (simp; done) | (simp; omega)) ?_
 refine need_by (by first | assumption | omega | (simp; done) | (simp; omega)) ?_
 (refine hK _ ?_; clear hK K)
 refine c_assoc ?_
 refine c_reg fun K hK => ?_
 (apply s_call (spec9); (case hf => rfl); (case hq => (simp only [vm]; rfl)); (case hvs => rfl))
 simp only [vm, vr, reduceIte, Nat.reduceEqDiff, reduceCtorEq]
 (refine hK _ ?_; clear hK K)
 refine c_if _ rfl (fun hb1 => ?_) (fun hb1 => ?_) <;> (have hp1 := hb1; try simp only [] at hp1)
 cases hb1
 refine c_skip ?_
 refine c_assoc ?_
 refine c_reg fun K hK => ?_
 simp only [vm, vr, q6, reduceIte, Nat.reduceEqDiff, Nat.reduceAdd, Nat.reduceLeDiff, reduceCtorEq]
 (apply s_call (spec10 _ _); (case hf => rfl); (case hq => (simp only [vm, reduceIte, Nat.reduceEqDiff, reduceCtorEq]; rfl)); (case hvs => rfl))
 simp only [vm, vr, q6, h, reduceIte, Nat.reduceEqDiff, Nat.reduceAdd, Nat.reduceLeDiff, reduceCtorEq]
 (apply s_call (spec34 _ _ ?s3503x1 ?s3503x2 ?s3503x3); (case hf => rfl); (case hq => (simp only [vm, reduceIte, Nat.reduceEqDiff, reduceCtorEq]; rfl)); (case hvs => rfl); (case s3503x1 | s3503x2 | s3503x3 => first | assumption | omega | (simp; done) | (simp; omega)))
 simp only [vm, vr, q6, k1, reduceIte, Nat.reduceEqDiff, Nat.reduceAdd, Nat.reduceLeDiff, reduceCtorEq]
 (apply s_call (spec35 _ _ ?s3504x1 ?s3504x2); (case hf => rfl); (case hq => (simp only [vm, reduceIte, Nat.reduceEqDiff, reduceCtorEq]; rfl)); (case hvs => rfl); (case s3504x1 | s3504x2 => first | assumption | omega | (simp; done) | (simp; omega)))
 simp only [vm, vr, k2, reduceIte, Nat.reduceEqDiff, reduceCtorEq]
 (refine hK _ ?_; clear hK K)
 refine c_if _ rfl (fun hb2 => ?_) (fun hb2 => ?_) <;> (have hp2 := hb2; try simp only [] at hp2)
 cases hb2
 refine c_skip ?_
 refine c_draw fun K hK => ?_
 simp only [vm, vr, q6, reduceIte, Nat.reduceEqDiff, Nat.reduceAdd, Nat.reduceLeDiff, reduceCtorEq]
 (apply d_callx (spec12 _ ?s3505x1); (case hf => rfl); (case hq => (simp only [vm, reduceIte, Nat.reduceEqDiff, reduceCtorEq]; rfl)); (case hvs => rfl); (case hL => (simp only [vm, R.toL, R1.toL, rcsToL, RC.toL, siteN, reduceIte, Nat.reduceAdd, Nat.reduceMul]; rfl)); (case hfr => (simp only [vm, vr, reduceIte, Nat.reduceEqDiff, reduceCtorEq]; try rfl)); (case s3505x1 => first | assumption | omega | (simp; done) | (simp; omega)))
 simp only [vm, vr, vp, q6, reduceIte, Nat.reduceEqDiff, Nat.reduceAdd, Nat.reduceLeDiff, reduceCtorEq]
 (apply d_callx (spec15 _ ?s3506x1); (case hf => rfl); (case hq => (simp only [vm, reduceIte, Nat.reduceEqDiff, reduceCtorEq]; rfl)); (case hvs => rfl); (case hL => (simp only [vm, R.toL, R1.toL, rcsToL, RC.toL, siteN, reduceIte, Nat.reduceAdd, Nat.reduceMul]; rfl)); (case hfr => (simp only [vm, vr, reduceIte, Nat.reduceEqDiff, reduceCtorEq]; try rfl)); (case s3506x1 => first | assumption | omega | (simp; done) | (simp; omega)))
 (apply d_call2 (hs36); (case hf => rfl); (case hq => (simp only [vm, vr, vp, reduceIte, Nat.reduceEqDiff, reduceCtorEq]; rfl)); (case hvs => rfl))
 simp only [vm, vr, vp, reduceIte, Nat.reduceEqDiff, reduceCtorEq]
 (refine draw_ok (by decide +kernel) (hK _ ?_); clear hK; clear K)
 refine c_draw fun K hK => ?_
 simp only [vm, vr, q6, reduceIte, Nat.reduceEqDiff, Nat.reduceAdd, Nat.reduceLeDiff, reduceCtorEq]
 (apply d_callx (spec12 _ ?s3508x1); (case hf => rfl); (case hq => (simp only [vm, reduceIte, Nat.reduceEqDiff, reduceCtorEq]; rfl)); (case hvs => rfl); (case hL => (simp only [vm, R.toL, R1.toL, rcsToL, RC.toL, siteN, reduceIte, Nat.reduceAdd, Nat.reduceMul]; rfl)); (case hfr => (simp only [vm, vr, reduceIte, Nat.reduceEqDiff, reduceCtorEq]; try rfl)); (case s3508x1 => first | assumption | omega | (simp; done) | (simp; omega)))
 simp only [vm, vr, vp, q6, reduceIte, Nat.reduceEqDiff, Nat.reduceAdd, Nat.reduceLeDiff, reduceCtorEq]
 (apply d_callx (spec15 _ ?s3509x1); (case hf => rfl); (case hq => (simp only [vm, reduceIte, Nat.reduceEqDiff, reduceCtorEq]; rfl)); (case hvs => rfl); (case hL => (simp only [vm, R.toL, R1.toL, rcsToL, RC.toL, siteN, reduceIte, Nat.reduceAdd, Nat.reduceMul]; rfl)); (case hfr => (simp only [vm, vr, reduceIte, Nat.reduceEqDiff, reduceCtorEq]; try rfl)); (case s3509x1 => first | assumption | omega | (simp; done) | (simp; omega)))
 simp only [vm, vr, vp, q6, reduceIte, Nat.reduceEqDiff, Nat.reduceAdd, Nat.reduceLeDiff, reduceCtorEq]
 (apply d_callx (spec13 _ ?s3510x1); (case hf => rfl); (case hq => (simp only [vm, reduceIte, Nat.reduceEqDiff, reduceCtorEq]; rfl)); (case hvs => rfl); (case hL => (simp only [vm, R.toL, R1.toL, rcsToL, RC.toL, siteN, reduceIte, Nat.reduceAdd, Nat.reduceMul]; rfl)); (case hfr => (simp only [vm, vr, reduceIte, Nat.reduceEqDiff, reduceCtorEq]; try rfl)); (case s3510x1 => first | assumption | omega | (simp; done) | (simp; omega)))
 (apply d_call3 (hs14); (case hf => rfl); (case hq => (simp only [vm, vr, vp, reduceIte, Nat.reduceEqDiff, reduceCtorEq]; rfl)); (case hvs => rfl))
 simp only [vm, vr, vp, reduceIte, Nat.reduceEqDiff, reduceCtorEq]
 (refine draw_ok (by decide +kernel) (hK _ ?_); clear hK; clear K)
 refine c_draw fun K hK => ?_
 simp only [vm, vr, q6, reduceIte, Nat.reduceEqDiff, Nat.reduceAdd, Nat.reduceLeDiff, reduceCtorEq]
 (apply d_callx (spec12 _ ?s3512x1); (case hf => rfl); (case hq => (simp only [vm, reduceIte, Nat.reduceEqDiff, reduceCtorEq]; rfl)); (case hvs => rfl); (case hL => (simp only [vm, R.toL, R1.toL, rcsToL, RC.toL, siteN, reduceIte, Nat.reduceAdd, Nat.reduceMul]; rfl)); (case hfr => (simp only [vm, vr, reduceIte, Nat.reduceEqDiff, reduceCtorEq]; try rfl)); (case s3512x1 => first | assumption | omega | (simp; done) | (simp; omega)))
 simp only [vm, vr, vp, q6, reduceIte, Nat.reduceEqDiff, Nat.reduceAdd, Nat.reduceLeDiff, reduceCtorEq]
 (apply d_callx (spec15 _ ?s3513x1); (case hf => rfl); (case hq => (simp only [vm, reduceIte, Nat.reduceEqDiff, reduceCtorEq]; rfl)); (case hvs => rfl); (case hL => (simp only [vm, R.toL, R1.toL, rcsToL, RC.toL, siteN, reduceIte, Nat.reduceAdd, Nat.reduceMul]; rfl)); (case hfr => (simp only [vm, vr, reduceIte, Nat.reduceEqDiff, reduceCtorEq]; try rfl)); (case s3513x1 => first | assumption | omega | (simp; done) | (simp; omega)))
 (apply d_call2 (spec37w2 _ _ ?s3515x1 ?s3515x2 ?s3515x3 ?s3515x4 ?s3515x5 ?s3515x6); (case hf => rfl); (case hq => (simp only [vm, vr, vp, reduceIte, Nat.reduceEqDiff, reduceCtorEq]; rfl)); (case hvs => rfl); (case s3515x1 | s3515x2 | s3515x3 | s3515x4 | s3515x5 | s3515x6 => first | assumption | omega | (simp; done) | (simp; omega)))
 simp only [vm, vr, vp, reduceIte, Nat.reduceEqDiff, reduceCtorEq]
 (refine draw_ok (by decide +kernel) (hK _ ?_); clear hK; clear K)
 refine c_assoc ?_
 refine vcode_cut (fun _ : Unit => [(3, L.own 3 0), (4, L.own 4 0), (5, L.own 5 0), (6, L.p (V.b false)), (7, L.p (nn A)), (9, L.p (V.sl (List.map p2 (matL r s m s.ths.length)))), (10, L.p (V.b k)), (12, L.p (V.sl (List.map p4 (heaL r s)))), (106, L.p (V.b false))]) (fun _ => [(Key.b 5, M.box 4), (Key.c 5 0, M.cell (L.p (nn m.stress))), (Key.c 5 1, M.cell (L.p (nn m.friction))), (Key.c 5 2, M.cell (L.p (nn m.heat))), (Key.c 5 3, M.cell (L.p (V.sl (m.losses.map nn)))), (Key.b 4, M.box 2), (Key.c 4 0, M.cell (L.p (V.s s.name))), (Key.c 4 1, M.cell (L.p (V.sl (s.ths.map nn)))), (Key.b 3, M.box 11), (Key.c 3 0, M.cell (L.p (nn r.width))), (Key.c 3 1, M.cell (L.p (nn r.start))), (Key.c 3 2, M.cell (L.p (nn r.finish))), (Key.c 3 3, M.cell (L.p (nn r.hlo))), (Key.c 3 4, M.cell (L.p (nn r.hhi))), (Key.c 3 5, M.cell (L.p (nn r.cold))), (Key.c 3 6, M.cell (L.p (V.sl (r.stands.map stdV)))), (Key.c 3 7, M.cell (L.p (nn r.slo))), (Key.c 3 8, M.cell (L.p (nn r.shi))), (Key.c 3 9, M.cell (L.p (nn r.flo))), (Key.c 3 10, M.cell (L.p (nn r.fhi)))]) (fun _ => True) ?_ ?_
 ·
  rintro ⟨⟩ _
  refine c_if _ rfl (fun hb3 => ?_) (fun hb3 => ?_) <;> (have hp3 := hb3; try simp only [] at hp3)
  cases hb3
  refine c_skip ?_
  refine c_assoc ?_
  refine c_reg fun K hK => ?_
  simp only [vm, vr]
  (refine hK _ ?_; clear hK K)
  refine c_block ?_
  refine vcode_loop (fun i : Nat => [(3, L.own 3 0), (4, L.own 4 0), (5, L.own 5 0), (6, L.p (V.b false)), (7, L.p (nn A)), (9, L.p (V.sl (List.map p2 (matL r s m s.ths.length)))), (10, L.p (V.b k)), (12, L.p (V.sl (List.map p4 (heaL r s)))), (14, L.p (nn i))]) (fun i => [(Key.b 5, M.box 4), (Key.c 5 0, M.cell (L.p (nn m.stress))), (Key.c 5 1, M.cell (L.p (nn m.friction))), (Key.c 5 2, M.cell (L.p (nn m.heat))), (Key.c 5 3, M.cell (L.p (V.sl (m.losses.map nn)))), (Key.b 4, M.box 2), (Key.c 4 0, M.cell (L.p (V.s s.name))), (Key.c 4 1, M.cell (L.p (V.sl (s.ths.map nn)))), (Key.b 3, M.box 11), (Key.c 3 0, M.cell (L.p (nn r.width))), (Key.c 3 1, M.cell (L.p (nn r.start))), (Key.c 3 2, M.cell (L.p (nn r.finish))), (Key.c 3 3, M.cell (L.p (nn r.hlo))), (Key.c 3 4, M.cell (L.p (nn r.hhi))), (Key.c 3 5, M.cell (L.p (nn r.cold))), (Key.c 3 6, M.cell (L.p (V.sl (r.stands.map stdV)))), (Key.c 3 7, M.cell (L.p (nn r.slo))), (Key.c 3 8, M.cell (L.p (nn r.shi))), (Key.c 3 9, M.cell (L.p (nn r.flo))), (Key.c 3 10, M.cell (L.p (nn r.fhi)))]) (fun i => i ≤ s.ths.length) (fun i => s.ths.length - i) 0 (Nat.zero_le _) ?_ ?_
  ·
   simp only [vm, vmk, reduceIte, Nat.reduceEqDiff, Nat.reduceAdd, Nat.reduceLT, reduceCtorEq]
  ·
   intro i hi
   rcases Nat.lt_or_ge i s.ths.length with hil | hil
   ·
    have kl : decide ((i : Int) < ((matL r s m s.ths.length).length : Int)) = true := decide_eq_true (by omega)
    have hma : (matL r s m s.ths.length).getD i default = lowV (matW r s m i) 100 := matL_at hil
    have hha : (heaL r s).getD i default = (lowV (hLo r s i) 100, lowV (hHi r s i) 100) := heaL_at hS hil
    obtain ⟨b1, b2, b3, b4, b5⟩ := hea_between hr hMo hS hil
    have fr1 := fr_low b1
    have fr2 := fr_low b2
    have fr3 := fr_low b3
    have c1 := cmp_ge (low_cross (n := hLo r s i) (m := matW r s m i) (d := 100) (by omega) b4)
    have c2 := cmp_le (low_cross (n := matW r s m i) (m := hHi r s i) (d := 100) (by omega) b5)
    generalize lowV (matW r s m i) 100 = X at *
    generalize lowV (hLo r s i) 100 = Y at *
    generalize lowV (hHi r s i) 100 = Z at *
    have fX : FrOk (X.1, X.2) := fr1
    have fY : FrOk (Y.1, Y.2) := fr2
    have fZ : FrOk (Z.1, Z.2) := fr3
    refine c_assoc ?_
    refine c_reg fun K hK => ?_
    simp only [vm, vr,  q6, kl, reduceIte, Nat.reduceEqDiff]
    (refine hK _ ?_; clear hK K)
    refine c_if _ rfl (fun hb4 => ?_) (fun hb4 => ?_) <;> (have hp4 := hb4; try simp only [] at hp4)
    refine c_skip ?_
    refine c_block ?_
    refine c_draw fun K hK => ?_
    simp only [List.append_eq, List.cons_append, List.nil_append]
    refine d_one fun K hK => ?_
    simp only [vm,  vw, reduceIte, Nat.reduceEqDiff]
    (refine hK _ ?_; clear hK K)
    refine d_one fun K hK => ?_
    simp only [vm, vr,  vw, reduceIte, Nat.reduceEqDiff]
    (refine hK _ ?_; clear hK K)
    refine d_one fun K hK => ?_
    simp only [vm, vr,  q6, vw, reduceIte, Nat.reduceEqDiff]
    (refine atI_map default (by first | assumption | omega | (simp; done) | (simp; omega)) (by first | assumption | omega | (simp; done) | (simp; omega)) ?_; simp only [vm, vr,  hma, Nat.reduceAdd])
    (refine hK _ ?_; clear hK K)
    refine d_one fun K hK => ?_
    simp only [vm, vr,  q6, vw, reduceIte, Nat.reduceEqDiff, Nat.reduceAdd]
    (refine hK _ ?_; clear hK K)
    (apply d_call (spec38 _ _ ?s5801x1); (case hf => rfl); (case hq => (simp only [vm, vr,  reduceIte, Nat.reduceEqDiff]; rfl)); (case hvs => rfl); (case s5801x1 => first | assumption | omega | (simp; done) | (simp; omega)))
    refine d_one fun K hK => ?_
    simp only [vm, vr,  vw, reduceIte, Nat.reduceEqDiff]
    (refine hK _ ?_; clear hK K)
    refine d_one fun K hK => ?_
    simp only [vm, vr,  vw, reduceIte, Nat.reduceEqDiff]
    (refine hK _ ?_; clear hK K)
    refine d_oneg fun K hK => ?_
    simp only [vm, vr,  reduceIte, Nat.reduceEqDiff]
    simp only [vm,  vw, reduceIte, Nat.reduceEqDiff]
    (refine hK _ ?_; clear hK K)
    refine d_oneg fun K hK => ?_
    simp only [vm, vr,  reduceIte, Nat.reduceEqDiff]
    simp only [vm,  vw, reduceIte, Nat.reduceEqDiff]
    (refine hK _ ?_; clear hK K)
    refine d_oneg fun K hK => ?_
    simp only [vm, vr,  reduceIte, Nat.reduceEqDiff]
    simp only [vm,  q6, vw, reduceIte, Nat.reduceEqDiff]
    (refine atI_map default (by first | assumption | omega | (simp; done) | (simp; omega)) (by first | assumption | omega | (simp; done) | (simp; omega)) ?_; simp only [vm, vr,  hma, Nat.reduceAdd])
    (refine hK _ ?_; clear hK K)
    refine d_oneg fun K hK => ?_
    simp only [vm, vr,  reduceIte, Nat.reduceEqDiff]
    simp only [vm,  q6, vw, reduceIte, Nat.reduceEqDiff, Nat.reduceAdd]
    (refine hK _ ?_; clear hK K)
    refine d_oneg fun K hK => ?_
    simp only [vm, vr,  reduceIte, Nat.reduceEqDiff]
    simp only [vm,  vw, reduceIte, Nat.reduceEqDiff]
    (apply call_v (spec39 _ _ ?s5802x1); (case hq => (simp only [vm,  ]; rfl)); (case hvs => rfl); (case s5802x1 => first | assumption | omega | (simp; done) | (simp; omega)))
    (refine hK _ ?_; clear hK K)
    refine d_oneg fun K hK => ?_
    simp only [vm, vr,  reduceIte, Nat.reduceEqDiff]
    simp only [vm,  vw, reduceIte, Nat.reduceEqDiff]
    (refine hK _ ?_; clear hK K)
    refine d_one fun K hK => ?_
    simp only [vm, vr,  vw, reduceIte, Nat.reduceEqDiff]
    (refine hK _ ?_; clear hK K)
    refine d_one fun K hK => ?_
    simp only [vm, vr,  vw, reduceIte, Nat.reduceEqDiff]
    (refine hK _ ?_; clear hK K)
    refine d_oneg fun K hK => ?_
    simp only [vm, vr,  reduceIte, Nat.reduceEqDiff]
    simp only [vm,  vw, reduceIte, Nat.reduceEqDiff]
    (refine hK _ ?_; clear hK K)
    refine d_oneg fun K hK => ?_
    simp only [vm, vr,  reduceIte, Nat.reduceEqDiff]
    simp only [vm,  vw, reduceIte, Nat.reduceEqDiff]
    (refine hK _ ?_; clear hK K)
    refine d_oneg fun K hK => ?_
    simp only [vm, vr,  reduceIte, Nat.reduceEqDiff]
    simp only [vm,  q6, vw, reduceIte, Nat.reduceEqDiff]
    (refine atI_map default (by first | assumption | omega | (simp; done) | (simp; omega)) (by first | assumption | omega | (simp; done) | (simp; omega)) ?_; simp only [vm, vr,  hha, Nat.reduceAdd])
    (refine hK _ ?_; clear hK K)
    refine d_oneg fun K hK => ?_
    simp only [vm, vr,  reduceIte, Nat.reduceEqDiff]
    simp only [vm, vr,  q6, vw, reduceIte, Nat.reduceEqDiff]
    (refine hK _ ?_; clear hK K)
    refine d_oneg fun K hK => ?_
    simp only [vm, vr,  reduceIte, Nat.reduceEqDiff]
    simp only [vm,  q6, vload_ref2, vw, reduceIte, Nat.reduceEqDiff]
    (refine hK _ ?_; clear hK K)
    refine d_oneg fun K hK => ?_
    simp only [vm, vr,  reduceIte, Nat.reduceEqDiff]
    simp only [vm,  vw, reduceIte, Nat.reduceEqDiff]
    (apply call_v (spec38 _ _ ?s5803x1); (case hq => (simp only [vm,  ]; rfl)); (case hvs => rfl); (case s5803x1 => first | assumption | omega | (simp; done) | (simp; omega)))
    (refine hK _ ?_; clear hK K)
    refine d_oneg fun K hK => ?_
    simp only [vm, vr,  reduceIte, Nat.reduceEqDiff]
    simp only [vm,  vw, reduceIte, Nat.reduceEqDiff]
    (refine hK _ ?_; clear hK K)
    refine d_one fun K hK => ?_
    simp only [vm, vr,  vw, reduceIte, Nat.reduceEqDiff]
    (refine hK _ ?_; clear hK K)
    refine d_one fun K hK => ?_
    simp only [vm, vr,  vw, reduceIte, Nat.reduceEqDiff]
    (refine hK _ ?_; clear hK K)
    refine d_oneg fun K hK => ?_
    simp only [vm, vr,  reduceIte, Nat.reduceEqDiff]
    simp only [vm,  vw, reduceIte, Nat.reduceEqDiff]
    (refine hK _ ?_; clear hK K)
    refine d_oneg fun K hK => ?_
    simp only [vm, vr,  reduceIte, Nat.reduceEqDiff]
    simp only [vm,  vw, reduceIte, Nat.reduceEqDiff]
    (refine hK _ ?_; clear hK K)
    refine d_oneg fun K hK => ?_
    simp only [vm, vr,  reduceIte, Nat.reduceEqDiff]
    simp only [vm,  q6, vw, reduceIte, Nat.reduceEqDiff]
    (refine atI_map default (by first | assumption | omega | (simp; done) | (simp; omega)) (by first | assumption | omega | (simp; done) | (simp; omega)) ?_; simp only [vm, vr,  hha, Nat.reduceAdd])
    (refine hK _ ?_; clear hK K)
    refine d_oneg fun K hK => ?_
    simp only [vm, vr,  reduceIte, Nat.reduceEqDiff]
    simp only [vm, vr,  q6, vw, reduceIte, Nat.reduceEqDiff]
    (refine hK _ ?_; clear hK K)
    refine d_oneg fun K hK => ?_
    simp only [vm, vr,  reduceIte, Nat.reduceEqDiff]
    simp only [vm,  q6, vload_ref2, vw, reduceIte, Nat.reduceEqDiff]
    (refine hK _ ?_; clear hK K)
    refine d_oneg fun K hK => ?_
    simp only [vm, vr,  reduceIte, Nat.reduceEqDiff]
    simp only [vm,  vw, reduceIte, Nat.reduceEqDiff]
    (apply call_v (spec39 _ _ ?s5804x1); (case hq => (simp only [vm,  ]; rfl)); (case hvs => rfl); (case s5804x1 => first | assumption | omega | (simp; done) | (simp; omega)))
    (refine hK _ ?_; clear hK K)
    refine d_oneg fun K hK => ?_
    simp only [vm, vr,  reduceIte, Nat.reduceEqDiff]
    simp only [vm,  vw, reduceIte, Nat.reduceEqDiff]
    (refine hK _ ?_; clear hK K)
    refine d_one fun K hK => ?_
    simp only [vm, vr,  vw, reduceIte, Nat.reduceEqDiff]
    (refine hK _ ?_; clear hK K)
    refine d_one fun K hK => ?_
    simp only [vm, vr,  vw, reduceIte, Nat.reduceEqDiff]
    (refine hK _ ?_; clear hK K)
    refine d_oneg fun K hK => ?_
    simp only [vm, vr,  reduceIte, Nat.reduceEqDiff]
    simp only [vm,  vw, reduceIte, Nat.reduceEqDiff]
    (refine hK _ ?_; clear hK K)
    refine d_oneg fun K hK => ?_
    simp only [vm, vr,  reduceIte, Nat.reduceEqDiff]
    simp only [vm,  vw, reduceIte, Nat.reduceEqDiff]
    (refine hK _ ?_; clear hK K)
    refine d_oneg fun K hK => ?_
    simp only [vm, vr,  reduceIte, Nat.reduceEqDiff]
    simp only [vm,  q6, vw, reduceIte, Nat.reduceEqDiff]
    (refine atI_map default (by first | assumption | omega | (simp; done) | (simp; omega)) (by first | assumption | omega | (simp; done) | (simp; omega)) ?_; simp only [vm, vr,  hha, Nat.reduceAdd])
    (refine hK _ ?_; clear hK K)
    refine d_oneg fun K hK => ?_
    simp only [vm, vr,  reduceIte, Nat.reduceEqDiff]
    simp only [vm, vr,  q6, vw, reduceIte, Nat.reduceEqDiff]
    (refine hK _ ?_; clear hK K)
    refine d_oneg fun K hK => ?_
    simp only [vm, vr,  reduceIte, Nat.reduceEqDiff]
    simp only [vm,  q6, vw, reduceIte, Nat.reduceEqDiff, Nat.reduceAdd]
    (refine hK _ ?_; clear hK K)
    refine d_oneg fun K hK => ?_
    simp only [vm, vr,  reduceIte, Nat.reduceEqDiff]
    simp only [vm,  vw, reduceIte, Nat.reduceEqDiff]
    (apply call_v (spec38 _ _ ?s5805x1); (case hq => (simp only [vm,  ]; rfl)); (case hvs => rfl); (case s5805x1 => first | assumption | omega | (simp; done) | (simp; omega)))
    (refine hK _ ?_; clear hK K)
    refine d_oneg fun K hK => ?_
    simp only [vm, vr,  reduceIte, Nat.reduceEqDiff]
    simp only [vm,  vw, reduceIte, Nat.reduceEqDiff]
    (refine hK _ ?_; clear hK K)
    refine d_one fun K hK => ?_
    simp only [vm, vr,  vw, reduceIte, Nat.reduceEqDiff]
    (refine hK _ ?_; clear hK K)
    refine d_one fun K hK => ?_
    simp only [vm, vr,  vw, reduceIte, Nat.reduceEqDiff]
    (refine hK _ ?_; clear hK K)
    refine d_oneg fun K hK => ?_
    simp only [vm, vr,  reduceIte, Nat.reduceEqDiff]
    simp only [vm,  vw, reduceIte, Nat.reduceEqDiff]
    (refine hK _ ?_; clear hK K)
    refine d_oneg fun K hK => ?_
    simp only [vm, vr,  reduceIte, Nat.reduceEqDiff]
    simp only [vm,  vw, reduceIte, Nat.reduceEqDiff]
    (refine hK _ ?_; clear hK K)
    refine d_oneg fun K hK => ?_
    simp only [vm, vr,  reduceIte, Nat.reduceEqDiff]
    simp only [vm,  q6, vw, reduceIte, Nat.reduceEqDiff]
    (refine atI_map default (by first | assumption | omega | (simp; done) | (simp; omega)) (by first | assumption | omega | (simp; done) | (simp; omega)) ?_; simp only [vm, vr,  hha, Nat.reduceAdd])
    (refine hK _ ?_; clear hK K)
    refine d_oneg fun K hK => ?_
    simp only [vm, vr,  reduceIte, Nat.reduceEqDiff]
    simp only [vm, vr,  q6, vw, reduceIte, Nat.reduceEqDiff]
    (refine hK _ ?_; clear hK K)
    refine d_oneg fun K hK => ?_
    simp only [vm, vr,  reduceIte, Nat.reduceEqDiff]
    simp only [vm,  q6, vw, reduceIte, Nat.reduceEqDiff, Nat.reduceAdd]
    (refine hK _ ?_; clear hK K)
    refine d_oneg fun K hK => ?_
    simp only [vm, vr,  reduceIte, Nat.reduceEqDiff]
    simp only [vm,  vw, reduceIte, Nat.reduceEqDiff]
    (apply call_v (spec39 _ _ ?s5806x1); (case hq => (simp only [vm,  ]; rfl)); (case hvs => rfl); (case s5806x1 => first | assumption | omega | (simp; done) | (simp; omega)))
    (refine hK _ ?_; clear hK K)
    refine d_oneg fun K hK => ?_
    simp only [vm, vr,  reduceIte, Nat.reduceEqDiff]
    simp only [vm,  vw, reduceIte, Nat.reduceEqDiff]
    (refine hK _ ?_; clear hK K)
    refine d_one fun K hK => ?_
    simp only [vm, vr,  vw, reduceIte, Nat.reduceEqDiff]
    (refine hK _ ?_; clear hK K)
    refine d_one fun K hK => ?_
    simp only [vm, vr,  vw, reduceIte, Nat.reduceEqDiff]
    (refine hK _ ?_; clear hK K)
    refine d_oneg fun K hK => ?_
    simp only [vm, vr,  reduceIte, Nat.reduceEqDiff]
    simp only [vm,  vw, reduceIte, Nat.reduceEqDiff]
    (refine hK _ ?_; clear hK K)
    refine d_oneg fun K hK => ?_
    simp only [vm, vr,  reduceIte, Nat.reduceEqDiff]
    simp only [vm,  vw, reduceIte, Nat.reduceEqDiff]
    (refine hK _ ?_; clear hK K)
    refine d_oneg fun K hK => ?_
    simp only [vm, vr,  reduceIte, Nat.reduceEqDiff]
    simp only [vm,  q6, vw, reduceIte, Nat.reduceEqDiff]
    (refine atI_map default (by first | assumption | omega | (simp; done) | (simp; omega)) (by first | assumption | omega | (simp; done) | (simp; omega)) ?_; simp only [vm, vr,  hma, Nat.reduceAdd])
    (refine hK _ ?_; clear hK K)
    refine d_oneg fun K hK => ?_
    simp only [vm, vr,  reduceIte, Nat.reduceEqDiff]
    simp only [vm,  q6, vw, reduceIte, Nat.reduceEqDiff, Nat.reduceAdd]
    (refine hK _ ?_; clear hK K)
    refine d_oneg fun K hK => ?_
    simp only [vm, vr,  reduceIte, Nat.reduceEqDiff]
    simp only [vm,  vw, reduceIte, Nat.reduceEqDiff]
    (refine hK _ ?_; clear hK K)
    refine d_oneg fun K hK => ?_
    simp only [vm, vr,  reduceIte, Nat.reduceEqDiff]
    simp only [vm,  vw, reduceIte, Nat.reduceEqDiff]
    (refine hK _ ?_; clear hK K)
    refine d_oneg fun K hK => ?_
    simp only [vm, vr,  reduceIte, Nat.reduceEqDiff]
    simp only [vm,  q6, vw, reduceIte, Nat.reduceEqDiff]
    (refine atI_map default (by first | assumption | omega | (simp; done) | (simp; omega)) (by first | assumption | omega | (simp; done) | (simp; omega)) ?_; simp only [vm, vr,  hha, Nat.reduceAdd])
    (refine hK _ ?_; clear hK K)
    refine d_oneg fun K hK => ?_
    simp only [vm, vr,  reduceIte, Nat.reduceEqDiff]
    simp only [vm, vr,  q6, vw, reduceIte, Nat.reduceEqDiff]
    (refine hK _ ?_; clear hK K)
    refine d_oneg fun K hK => ?_
    simp only [vm, vr,  reduceIte, Nat.reduceEqDiff]
    simp only [vm,  q6, vload_ref2, vw, reduceIte, Nat.reduceEqDiff]
    (refine hK _ ?_; clear hK K)
    refine d_oneg fun K hK => ?_
    simp only [vm, vr,  reduceIte, Nat.reduceEqDiff]
    simp only [vm,  vw, reduceIte, Nat.reduceEqDiff]
    (apply call_v (spec40 _ _ _ _ ?s5807x1 ?s5807x2); (case hq => (simp only [vm,  ]; rfl)); (case hvs => rfl); (case s5807x1 | s5807x2 => first | assumption | omega | (simp; done) | (simp; omega)))
    (refine hK _ ?_; clear hK K)
    refine d_oneg fun K hK => ?_
    simp only [vm, vr,  reduceIte, Nat.reduceEqDiff]
    simp only [vm,  c1, vw, reduceIte, Nat.reduceEqDiff]
    (refine hK _ ?_; clear hK K)
    refine d_one fun K hK => ?_
    simp only [vm, vr,  vw, reduceIte, Nat.reduceEqDiff]
    (refine hK _ ?_; clear hK K)
    refine d_one fun K hK => ?_
    simp only [vm, vr,  vw, reduceIte, Nat.reduceEqDiff]
    (refine hK _ ?_; clear hK K)
    refine d_oneg fun K hK => ?_
    simp only [vm, vr,  reduceIte, Nat.reduceEqDiff]
    simp only [vm,  vw, reduceIte, Nat.reduceEqDiff]
    (refine hK _ ?_; clear hK K)
    refine d_oneg fun K hK => ?_
    simp only [vm, vr,  reduceIte, Nat.reduceEqDiff]
    simp only [vm,  vw, reduceIte, Nat.reduceEqDiff]
    (refine hK _ ?_; clear hK K)
    refine d_oneg fun K hK => ?_
    simp only [vm, vr,  reduceIte, Nat.reduceEqDiff]
    simp only [vm,  q6, vw, reduceIte, Nat.reduceEqDiff]
    (refine atI_map default (by first | assumption | omega | (simp; done) | (simp; omega)) (by first | assumption | omega | (simp; done) | (simp; omega)) ?_; simp only [vm, vr,  hma, Nat.reduceAdd])
    (refine hK _ ?_; clear hK K)
    refine d_oneg fun K hK => ?_
    simp only [vm, vr,  reduceIte, Nat.reduceEqDiff]
    simp only [vm,  q6, vw, reduceIte, Nat.reduceEqDiff, Nat.reduceAdd]
    (refine hK _ ?_; clear hK K)
    refine d_oneg fun K hK => ?_
    simp only [vm, vr,  reduceIte, Nat.reduceEqDiff]
    simp only [vm,  vw, reduceIte, Nat.reduceEqDiff]
    (refine hK _ ?_; clear hK K)
    refine d_oneg fun K hK => ?_
    simp only [vm, vr,  reduceIte, Nat.reduceEqDiff]
    simp only [vm,  vw, reduceIte, Nat.reduceEqDiff]
    (refine hK _ ?_; clear hK K)
    refine d_oneg fun K hK => ?_
    simp only [vm, vr,  reduceIte, Nat.reduceEqDiff]
    simp only [vm,  q6, vw, reduceIte, Nat.reduceEqDiff]
    (refine atI_map default (by first | assumption | omega | (simp; done) | (simp; omega)) (by first | assumption | omega | (simp; done) | (simp; omega)) ?_; simp only [vm, vr,  hha, Nat.reduceAdd])
    (refine hK _ ?_; clear hK K)
    refine d_oneg fun K hK => ?_
    simp only [vm, vr,  reduceIte, Nat.reduceEqDiff]
    simp only [vm, vr,  q6, vw, reduceIte, Nat.reduceEqDiff]
    (refine hK _ ?_; clear hK K)
    simp only [vm, vr,  q6, reduceIte, Nat.reduceEqDiff, Nat.reduceAdd]
    (apply d_call (spec40 _ _ _ _ ?s5808x1 ?s5808x2); (case hf => rfl); (case hq => (simp only [vm,  reduceIte, Nat.reduceEqDiff]; rfl)); (case hvs => rfl); (case s5808x1 | s5808x2 => first | assumption | omega | (simp; done) | (simp; omega)))
    simp only [vm, vr,  c2, reduceIte, Nat.reduceEqDiff]
    (refine draw_ok (by decide +kernel) (hK _ ?_); clear hK; clear K)
    refine vcode_if _ rfl (fun hb5 => ?_) (fun hb5 => ?_) <;> (have hp5 := hb5; try simp only [] at hp5)
    cases hb5
    refine c_skip1 ?_
    simp only [thenV_n, blockV_n]
    refine c_reg1 fun K hK => ?_
    simp only [vm, vr,  reduceIte, Nat.reduceEqDiff]
    (simp (disch := omega) only [wr64]; try simp only [vm, vr, vt, vp,  q6, kl, hma, hha, c1, c2, vload_ref2, hb1, hb2, hb3, hb4, hb5, Int.reduceBNe, Int.reduceBEq, Int.reduceLT, Int.reduceLE, Int.reduceGT, Int.reduceGE, decide_true, decide_false, bne_self_eq_false, beq_self_eq_true, reduceIte, Nat.reduceEqDiff, Nat.reduceAdd, Nat.reduceLeDiff, Nat.reduceMul, Nat.reduceLT, reduceCtorEq])
    (refine hK _ ?_; clear hK K)
    simp only [thenV_n]
    rotate_left
    cases hb4
    refine ⟨i + 1, ?_, by omega, by omega⟩
    ((show Wk _ _ _; simp only [vm, vmk, reduceIte, Nat.reduceEqDiff, Nat.reduceAdd, Nat.reduceLT, reduceCtorEq]; (try simp (disch := omega) only [wr64]); try omega))
   ·
    have kl : decide ((i : Int) < ((matL r s m s.ths.length).length : Int)) = false := decide_eq_false_iff_not.2 (by omega)
    refine c_assoc ?_
    refine c_reg fun K hK => ?_
    simp only [vm, vr, q6, kl, reduceIte, Nat.reduceEqDiff]
    (refine hK _ ?_; clear hK K)
    refine c_if _ rfl (fun hb4 => ?_) (fun hb4 => ?_) <;> (have hp4 := hb4; try simp only [] at hp4)
    cases hb4
    refine c_exit ?_
    simp only [thenV_n, thenV_e, blockV_e, reduceIte]
    refine c_draw fun K hK => ?_
    simp only [vm, vr, q6, reduceIte, Nat.reduceEqDiff, Nat.reduceAdd, Nat.reduceLeDiff, reduceCtorEq]
    (apply d_callx (spec12 _ ?s6201x1); (case hf => rfl); (case hq => (simp only [vm, reduceIte, Nat.reduceEqDiff]; rfl)); (case hvs => rfl); (case hL => (simp only [vm, R.toL, R1.toL, rcsToL, RC.toL, siteN, reduceIte, Nat.reduceAdd, Nat.reduceMul]; rfl)); (case hfr => (simp only [vm, vr, reduceIte, Nat.reduceEqDiff, reduceCtorEq]; try rfl)); (case s6201x1 => first | assumption | omega | (simp; done) | (simp; omega)))
    simp only [vm, vr, vp, q6, reduceIte, Nat.reduceEqDiff, Nat.reduceAdd, Nat.reduceLeDiff, reduceCtorEq]
    (apply d_callx (spec12 _ ?s6202x1); (case hf => rfl); (case hq => (simp only [vm, reduceIte, Nat.reduceEqDiff]; rfl)); (case hvs => rfl); (case hL => (simp only [vm, R.toL, R1.toL, rcsToL, RC.toL, siteN, reduceIte, Nat.reduceAdd, Nat.reduceMul]; rfl)); (case hfr => (simp only [vm, vr, reduceIte, Nat.reduceEqDiff, reduceCtorEq]; try rfl)); (case s6202x1 => first | assumption | omega | (simp; done) | (simp; omega)))
    simp only [vm, vr, vp, q6, reduceIte, Nat.reduceEqDiff, Nat.reduceAdd, Nat.reduceLeDiff, reduceCtorEq]
    refine need_by (by first | assumption | omega | (simp; done) | (simp; omega)) ?_
    refine need_by (by first | assumption | omega | (simp; done) | (simp; omega)) ?_
    (refine draw_ok (by decide +kernel) (hK _ ?_); clear hK; clear K)
    refine c_draw fun K hK => ?_
    simp only [vm, vr, q6, reduceIte, Nat.reduceEqDiff, Nat.reduceAdd, Nat.reduceLeDiff, reduceCtorEq]
    (refine draw_ok (by decide +kernel) (hK _ ?_); clear hK; clear K)
    refine c_reg fun K hK => ?_
    simp only [vm, vr, q6, reduceIte, Nat.reduceEqDiff, Nat.reduceAdd, Nat.reduceLeDiff, reduceCtorEq]
    (refine hK _ ?_; clear hK K)
    refine c_assoc ?_
    refine c_reg fun K hK => ?_
    simp only [vm, vr]
    (refine hK _ ?_; clear hK K)
    refine c_block ?_
    refine vcode_loop (fun i : Nat => [(3, L.own 3 0), (4, L.own 4 0), (5, L.own 5 0), (6, L.p (V.b false)), (7, L.p (nn A)), (10, L.p (V.b k)), (15, L.own 15 0), (16, L.own 16 0), (17, L.p (nn i))]) (fun i => [(Key.b 15, M.box 11), (Key.c 15 0, M.cell (L.p (nn r.width))), (Key.c 15 1, M.cell (L.p (nn r.start))), (Key.c 15 2, M.cell (L.p (nn r.finish))), (Key.c 15 3, M.cell (L.p (nn m.heat))), (Key.c 15 4, M.cell (L.p (nn m.heat))), (Key.c 15 5, M.cell (L.p (nn r.cold))), (Key.c 15 6, M.cell (L.arr 190 0)), (Key.c 15 7, M.cell (L.p (nn m.stress))), (Key.c 15 8, M.cell (L.p (nn m.stress))), (Key.c 15 9, M.cell (L.p (nn m.friction))), (Key.c 15 10, M.cell (L.p (nn m.friction))), (Key.b 16, M.box 11), (Key.c 16 0, M.cell (L.p (nn r.width))), (Key.c 16 1, M.cell (L.p (nn r.start))), (Key.c 16 2, M.cell (L.p (nn r.finish))), (Key.c 16 3, M.cell (L.p (nn r.hlo))), (Key.c 16 4, M.cell (L.p (nn r.hhi))), (Key.c 16 5, M.cell (L.p (nn 0))), (Key.c 16 6, M.cell (L.arr 192 0)), (Key.c 16 7, M.cell (L.p (nn r.slo))), (Key.c 16 8, M.cell (L.p (nn r.shi))), (Key.c 16 9, M.cell (L.p (nn r.flo))), (Key.c 16 10, M.cell (L.p (nn r.fhi))), (Key.a 190, M.arr 0 60 5 ((stN r.stands m.losses i).map stdV)), (Key.a 192, M.arr 0 60 5 ((wdN r.stands i).map stdV)), (Key.b 5, M.box 4), (Key.c 5 0, M.cell (L.p (nn m.stress))), (Key.c 5 1, M.cell (L.p (nn m.friction))), (Key.c 5 2, M.cell (L.p (nn m.heat))), (Key.c 5 3, M.cell (L.p (V.sl (m.losses.map nn)))), (Key.b 4, M.box 2), (Key.c 4 0, M.cell (L.p (V.s s.name))), (Key.c 4 1, M.cell (L.p (V.sl (s.ths.map nn)))), (Key.b 3, M.box 11), (Key.c 3 0, M.cell (L.p (nn r.width))), (Key.c 3 1, M.cell (L.p (nn r.start))), (Key.c 3 2, M.cell (L.p (nn r.finish))), (Key.c 3 3, M.cell (L.p (nn r.hlo))), (Key.c 3 4, M.cell (L.p (nn r.hhi))), (Key.c 3 5, M.cell (L.p (nn r.cold))), (Key.c 3 6, M.cell (L.p (V.sl (r.stands.map stdV)))), (Key.c 3 7, M.cell (L.p (nn r.slo))), (Key.c 3 8, M.cell (L.p (nn r.shi))), (Key.c 3 9, M.cell (L.p (nn r.flo))), (Key.c 3 10, M.cell (L.p (nn r.fhi)))]) (fun i => i ≤ r.stands.length) (fun i => r.stands.length - i) 0 (Nat.zero_le _) ?_ ?_
    ·
     (simp only [vm, vmk, reduceIte, Nat.reduceEqDiff, Nat.reduceAdd, Nat.reduceLT, reduceCtorEq]; try simp (disch := omega) only [wr64]; try omega)
     exact ⟨rfl, rfl⟩
    ·
     intro i hi
     have n1 : (stN r.stands m.losses i).length = r.stands.length := stN_len
     have n2 : (wdN r.stands i).length = r.stands.length := wdN_len
     rcases Nat.lt_or_ge i r.stands.length with hil | hil
     ·
      have kl : decide ((i : Int) < (r.stands.length : Int)) = true := decide_eq_true (by omega)
      have hat : (stN r.stands m.losses i).getD i default = r.stands.getD i default := by rw [stN_at (by omega), if_neg (by omega)]
      have hat2 : (wdN r.stands i).getD i default = r.stands.getD i default := by rw [wdN_at (by omega), if_neg (by omega)]
      have hx : ∀ v : V, ((List.map stdV (wdN r.stands i)).set i v)[i]? = some v := fun v => by
       rw [List.getElem?_set_self (by rw [List.length_map, n2]; exact hil)]
      refine c_assoc ?_
      refine c_reg fun K hK => ?_
      simp only [vm, vr, q6, kl, reduceIte, Nat.reduceEqDiff, Nat.reduceAdd, Nat.reduceLeDiff, reduceCtorEq]
      (refine hK _ ?_; clear hK K)
      refine c_if _ rfl (fun hb5 => ?_) (fun hb5 => ?_) <;> (have hp5 := hb5; try simp only [] at hp5)
      refine c_skip ?_
      refine c_block ?_
      refine c_draw fun K hK => ?_
      simp only [vm, vr, q6, reduceIte, Nat.reduceEqDiff, Nat.reduceAdd, Nat.reduceLeDiff, reduceCtorEq]
      (refine atI_map 0 (by first | assumption | omega | (simp; done) | (simp; omega)) (by first | assumption | omega | (simp; done) | (simp; omega)) ?_; simp only [vm, vr, q6, reduceIte, Nat.reduceEqDiff, Nat.reduceAdd, Nat.reduceLeDiff, reduceCtorEq])
      (refine atI_map 0 (by first | assumption | omega | (simp; done) | (simp; omega)) (by first | assumption | omega | (simp; done) | (simp; omega)) ?_; simp only [vm, vr, q6, reduceIte, Nat.reduceEqDiff, Nat.reduceAdd, reduceCtorEq])
      refine need_by (by first | assumption | omega | (simp; done) | (simp; omega)) ?_
      (refine want_map default (by first | assumption | omega | (simp; done) | (simp; omega)) ?_; simp only [vm, vr, hat, Nat.reduceAdd, Nat.reduceLeDiff])
      (refine draw_ok (by decide +kernel) (hK _ ?_); clear hK; clear K)
      refine c_draw1 fun K hK => ?_
      simp only [vm, vr, vt, q6, hx, List.set_set, reduceIte, Nat.reduceEqDiff, Nat.reduceAdd, Nat.reduceLeDiff, reduceCtorEq]
      refine need_by (by first | assumption | omega | (simp; done) | (simp; omega)) ?_
      (refine want_map default (by first | assumption | omega | (simp; done) | (simp; omega)) ?_; simp only [vm, vr, hat2, Nat.reduceAdd, Nat.reduceLeDiff])
      refine need_by (by first | assumption | omega | (simp; done) | (simp; omega)) ?_
      (refine draw_ok (by decide +kernel) (hK _ ?_); clear hK; clear K)
      simp only [thenV_n, blockV_n]
      refine c_reg1 fun K hK => ?_
      simp only [vm, vr, reduceIte, Nat.reduceEqDiff]
      (simp (disch := omega) only [wr64]; try simp only [vm, vr, vt, vp, q6, mapstd, kl, hat, hat2, hx, List.set_set, hb1, hb2, hb3, hb4, hb5, Int.reduceBNe, Int.reduceBEq, Int.reduceLT, Int.reduceLE, Int.reduceGT, Int.reduceGE, decide_true, decide_false, bne_self_eq_false, beq_self_eq_true, reduceIte, Nat.reduceEqDiff, Nat.reduceAdd, Nat.reduceLeDiff, Nat.reduceMul, Nat.reduceLT, reduceCtorEq])
      (refine hK _ ?_; clear hK K)
      simp only [thenV_n]
      rotate_left
      cases hb5
      refine ⟨i + 1, ?_, by omega, by omega⟩
      ((show Wk _ _ _; simp only [vm, vmk, reduceIte, Nat.reduceEqDiff, Nat.reduceAdd, Nat.reduceLT, reduceCtorEq]; (try simp (disch := omega) only [wr64]); try omega))
      exact ⟨by omega, by simp only [stN, wdN, List.map_set]; exact ⟨rfl, rfl⟩⟩
     ·
      have kl : decide ((i : Int) < (r.stands.length : Int)) = false := decide_eq_false_iff_not.2 (by omega)
      have hie : i = r.stands.length := by omega
      subst hie
      have z1 := both_conv (r := r) (s := s) o1 rfl rfl one_len hB
      have z2 := both_conv (r := r) (s := s) (wid_ok hr) rfl rfl wid_len hB
      have za := alone_ans hr hMo hS
      obtain ⟨B, zb⟩ : ∃ B, ansV (margs (widR r) s s.ths.length) = B := ⟨_, rfl⟩
      have hs36w3 : Sp0 36 [.agg [nn r.width, nn r.start, nn r.finish, nn r.hlo, nn r.hhi, nn 0, .sl ((wdN r.stands r.stands.length).map stdV), nn r.slo, nn r.shi, nn r.flo, nn r.fhi], schV s] (R.v2 (nn B) (nn 0)) := by
       have := spec36w2 (widR r) s (by rw [wid_len]; exact hl) hn hs z2 (wid_ok hr) (sch_wid hS)
       rw [zb] at this; exact this
      have zw : A = 2 → B = 2 := fun e => by rw [← zb]; exact wid_yes hr hS (hA.trans e)
      have go : ∀ C, ansV (margs (oneR r m) s s.ths.length) = C → Sp0 36 [.agg [nn r.width, nn r.start, nn r.finish, nn m.heat, nn m.heat, nn r.cold, .sl ((stN r.stands m.losses r.stands.length).map stdV), nn m.stress, nn m.stress, nn m.friction, nn m.friction], schV s] (R.v2 (nn C) (nn 0)) := fun C hC => by
       have := spec36w2 (oneR r m) s (by rw [one_len]; exact hl) hn hs z1 o1 o2
       rw [hC] at this; exact this
      obtain ⟨C, zC⟩ : ∃ C, ansV (margs (oneR r m) s s.ths.length) = C := ⟨_, rfl⟩
      have hs36w2 := go C zC
      refine c_assoc ?_
      refine c_reg fun K hK => ?_
      simp only [vm, vr,  q6, kl, reduceIte, Nat.reduceEqDiff, Nat.reduceAdd, Nat.reduceLeDiff, reduceCtorEq]
      (refine hK _ ?_; clear hK K)
      refine c_if _ rfl (fun hb5 => ?_) (fun hb5 => ?_) <;> (have hp5 := hb5; try simp only [] at hp5)
      cases hb5
      refine c_exit ?_
      simp only [thenV_n, thenV_e, blockV_e, reduceIte]
      refine c_draw fun K hK => ?_
      simp only [vm, vr, vp,  q6, reduceIte, Nat.reduceEqDiff, Nat.reduceAdd, Nat.reduceLeDiff, reduceCtorEq]
      (apply d_callx (spec15 _ ?s10001x1); (case hf => rfl); (case hq => (simp only [vm,  reduceIte, Nat.reduceEqDiff]; rfl)); (case hvs => rfl); (case hL => (simp only [vm, R.toL, R1.toL, rcsToL, RC.toL, siteN, reduceIte, Nat.reduceAdd, Nat.reduceMul]; rfl)); (case hfr => (simp only [vm, vr,  reduceIte, Nat.reduceEqDiff, reduceCtorEq]; try rfl)); (case s10001x1 => first | assumption | omega | (simp; done) | (simp; omega)))
      (apply d_call2 (hs36w2); (case hf => rfl); (case hq => (simp only [vm, vr, vp,  reduceIte, Nat.reduceEqDiff, reduceCtorEq]; rfl)); (case hvs => rfl))
      simp only [vm, vr, vp,  reduceIte, Nat.reduceEqDiff]
      (refine draw_ok (by decide +kernel) (hK _ ?_); clear hK; clear K)
      refine c_draw fun K hK => ?_
      simp only [vm, vr, vp,  q6, reduceIte, Nat.reduceEqDiff, Nat.reduceAdd, Nat.reduceLeDiff, reduceCtorEq]
      (apply d_callx (spec15 _ ?s10003x1); (case hf => rfl); (case hq => (simp only [vm,  reduceIte, Nat.reduceEqDiff]; rfl)); (case hvs => rfl); (case hL => (simp only [vm, R.toL, R1.toL, rcsToL, RC.toL, siteN, reduceIte, Nat.reduceAdd, Nat.reduceMul]; rfl)); (case hfr => (simp only [vm, vr,  reduceIte, Nat.reduceEqDiff, reduceCtorEq]; try rfl)); (case s10003x1 => first | assumption | omega | (simp; done) | (simp; omega)))
      (apply d_call2 (hs36w3); (case hf => rfl); (case hq => (simp only [vm, vr, vp,  reduceIte, Nat.reduceEqDiff, reduceCtorEq]; rfl)); (case hvs => rfl))
      simp only [vm, vr, vp,  reduceIte, Nat.reduceEqDiff]
      (refine draw_ok (by decide +kernel) (hK _ ?_); clear hK; clear K)
      rw [gK, zC] at za
      have f1 : ((C == 2) == k) = true := by cases k <;> simp [za]
      have f2 : (C != 1) = true := by cases k <;> simp [za]
      clear hs36w2 go
      by_cases e2' : A = 2
      ·
       have zc : (B == 2) = true := by simpa using zw e2'
       have zd : (A != 2) = false := by simpa using e2'
       refine c_reg fun K hK => ?_
       simp only [vm, vr, vt, vp, q6, mapstd, f1, f2, zc, zd, hb1, hb2, hb3, hb4, hb5, Int.reduceBNe, Int.reduceBEq, Int.reduceLT, Int.reduceLE, Int.reduceGT, Int.reduceGE, decide_true, decide_false, bne_self_eq_false, beq_self_eq_true, reduceIte, Nat.reduceEqDiff, Nat.reduceAdd, Nat.reduceLeDiff, Nat.reduceMul, Nat.reduceLT, reduceCtorEq]
       (refine hK _ ?_; clear hK K)
       refine c_ret1 ?_
       simp only [vm, vr, vt, vp, q6, mapstd, f1, f2, zc, zd, hb1, hb2, hb3, hb4, hb5, Int.reduceBNe, Int.reduceBEq, Int.reduceLT, Int.reduceLE, Int.reduceGT, Int.reduceGE, decide_true, decide_false, bne_self_eq_false, beq_self_eq_true, reduceIte, Nat.reduceEqDiff, Nat.reduceAdd, Nat.reduceLeDiff, Nat.reduceMul, Nat.reduceLT, reduceCtorEq]
      ·
       have zd : (A != 2) = true := by simpa using e2'
       refine c_reg fun K hK => ?_
       simp only [vm, vr, vt, vp, q6, mapstd, f1, f2, zd, hb1, hb2, hb3, hb4, hb5, Int.reduceBNe, Int.reduceBEq, Int.reduceLT, Int.reduceLE, Int.reduceGT, Int.reduceGE, decide_true, decide_false, bne_self_eq_false, beq_self_eq_true, reduceIte, Nat.reduceEqDiff, Nat.reduceAdd, Nat.reduceLeDiff, Nat.reduceMul, Nat.reduceLT, reduceCtorEq]
       (refine hK _ ?_; clear hK K)
       refine c_ret1 ?_
       simp only [vm, vr, vt, vp, q6, mapstd, f1, f2, zd, hb1, hb2, hb3, hb4, hb5, Int.reduceBNe, Int.reduceBEq, Int.reduceLT, Int.reduceLE, Int.reduceGT, Int.reduceGE, decide_true, decide_false, bne_self_eq_false, beq_self_eq_true, reduceIte, Nat.reduceEqDiff, Nat.reduceAdd, Nat.reduceLeDiff, Nat.reduceMul, Nat.reduceLT, reduceCtorEq]
 ·
  cases k with
  | true =>
   have a0 : (A == 0) = false := by
    have : A ≠ 0 := fun e => by have := no_keeps hr hMo hS (hA.trans e); rw [gK] at this; cases this
    simpa using this
   cases a2 : (A == 2) with
   | true =>
    refine c_reg1 fun K hK => ?_
    refine s_one fun K hK => ?_
    simp only [vm,  vw, reduceIte, Nat.reduceEqDiff, reduceCtorEq]
    (refine hK _ ?_; clear hK K)
    refine s_one fun K hK => ?_
    simp only [vm, vr,  vw, bne_self_eq_false, reduceIte, Nat.reduceEqDiff, reduceCtorEq]
    (refine hK _ ?_; clear hK K)
    refine s_one fun K hK => ?_
    simp only [vm, vr,  vw, reduceIte, Nat.reduceEqDiff, reduceCtorEq]
    (refine hK _ ?_; clear hK K)
    refine s_oneg fun K hK => ?_
    simp only [vm, vr,  reduceIte, Nat.reduceEqDiff, reduceCtorEq]
    simp only [vm,  vw, reduceIte, Nat.reduceEqDiff, reduceCtorEq]
    (refine hK _ ?_; clear hK K)
    refine s_oneg fun K hK => ?_
    simp only [vm, vr,  reduceIte, Nat.reduceEqDiff, reduceCtorEq]
    simp only [vm,  vw, bne_self_eq_false, reduceIte, Nat.reduceEqDiff, reduceCtorEq]
    (refine hK _ ?_; clear hK K)
    refine s_one fun K hK => ?_
    simp only [vm, vr,  vw, reduceIte, Nat.reduceEqDiff, reduceCtorEq]
    (refine hK _ ?_; clear hK K)
    refine s_one fun K hK => ?_
    simp only [vm, vr,  vw, reduceIte, Nat.reduceEqDiff, reduceCtorEq]
    (refine hK _ ?_; clear hK K)
    refine s_oneg fun K hK => ?_
    simp only [vm, vr,  reduceIte, Nat.reduceEqDiff, reduceCtorEq]
    simp only [vm,  vw, reduceIte, Nat.reduceEqDiff, reduceCtorEq]
    (refine hK _ ?_; clear hK K)
    refine s_oneg fun K hK => ?_
    simp only [vm, vr,  reduceIte, Nat.reduceEqDiff, reduceCtorEq]
    simp only [vm,  vw, bne_self_eq_false, reduceIte, Nat.reduceEqDiff, reduceCtorEq]
    (refine hK _ ?_; clear hK K)
    refine s_one fun K hK => ?_
    simp only [vm, vr,  vw, reduceIte, Nat.reduceEqDiff, reduceCtorEq]
    (refine hK _ ?_; clear hK K)
    refine s_one fun K hK => ?_
    simp only [vm, vr,  vw, reduceIte, Nat.reduceEqDiff, reduceCtorEq]
    (refine hK _ ?_; clear hK K)
    refine s_oneg fun K hK => ?_
    simp only [vm, vr,  reduceIte, Nat.reduceEqDiff, reduceCtorEq]
    simp only [vm,  vw, reduceIte, Nat.reduceEqDiff, reduceCtorEq]
    (refine hK _ ?_; clear hK K)
    refine s_oneg fun K hK => ?_
    simp only [vm, vr,  reduceIte, Nat.reduceEqDiff, reduceCtorEq]
    simp only [vm,  a2, vw, reduceIte, Nat.reduceEqDiff, reduceCtorEq]
    (refine hK _ ?_; clear hK K)
    refine s_oneg fun K hK => ?_
    simp only [vm, vr,  reduceIte, Nat.reduceEqDiff, reduceCtorEq]
    simp only [vm,  vw, reduceIte, Nat.reduceEqDiff, reduceCtorEq]
    (refine hK _ ?_; clear hK K)
    refine s_oneg fun K hK => ?_
    simp only [vm, vr,  reduceIte, Nat.reduceEqDiff, reduceCtorEq]
    simp only [vm,  vw, reduceIte, Nat.reduceEqDiff, reduceCtorEq]
    (refine hK _ ?_; clear hK K)
    refine s_oneg fun K hK => ?_
    simp only [vm, vr,  reduceIte, Nat.reduceEqDiff, reduceCtorEq]
    simp only [vm,  vw, reduceIte, Nat.reduceEqDiff, reduceCtorEq]
    (refine hK _ ?_; clear hK K)
    refine s_oneg fun K hK => ?_
    simp only [vm, vr,  reduceIte, Nat.reduceEqDiff, reduceCtorEq]
    simp only [vm,  vw, reduceIte, Nat.reduceEqDiff, reduceCtorEq]
    (refine hK _ ?_; clear hK K)
    refine s_one fun K hK => ?_
    simp only [vm, vr,  vw, reduceIte, Nat.reduceEqDiff, reduceCtorEq]
    (refine hK _ ?_; clear hK K)
    refine s_one fun K hK => ?_
    simp only [vm, vr,  vw, reduceIte, Nat.reduceEqDiff, reduceCtorEq]
    (refine hK _ ?_; clear hK K)
    refine s_oneg fun K hK => ?_
    simp only [vm, vr,  reduceIte, Nat.reduceEqDiff, reduceCtorEq]
    simp only [vm,  vw, reduceIte, Nat.reduceEqDiff, reduceCtorEq]
    (refine hK _ ?_; clear hK K)
    refine s_oneg fun K hK => ?_
    simp only [vm, vr,  reduceIte, Nat.reduceEqDiff, reduceCtorEq]
    simp only [vm,  a0, vw, reduceIte, Nat.reduceEqDiff, reduceCtorEq]
    (refine hK _ ?_; clear hK K)
    refine s_oneg fun K hK => ?_
    simp only [vm, vr,  reduceIte, Nat.reduceEqDiff, reduceCtorEq]
    simp only [vm,  vw, reduceIte, Nat.reduceEqDiff, reduceCtorEq]
    (refine hK _ ?_; clear hK K)
    refine s_oneg fun K hK => ?_
    simp only [vm, vr,  reduceIte, Nat.reduceEqDiff, reduceCtorEq]
    (refine hK _ ?_; clear hK K)
    refine s_oneg fun K hK => ?_
    simp only [vm, vr,  reduceIte, Nat.reduceEqDiff, reduceCtorEq]
    simp only [vm,  vw, reduceIte, Nat.reduceEqDiff, reduceCtorEq]
    (refine hK _ ?_; clear hK K)
    refine s_one fun K hK => ?_
    simp only [vm, vr,  vw, reduceIte, Nat.reduceEqDiff, reduceCtorEq]
    (refine hK _ ?_; clear hK K)
    refine s_one fun K hK => ?_
    simp only [vm, vr,  vw, reduceIte, Nat.reduceEqDiff, reduceCtorEq]
    (refine hK _ ?_; clear hK K)
    refine s_oneg fun K hK => ?_
    simp only [vm, vr,  reduceIte, Nat.reduceEqDiff, reduceCtorEq]
    simp only [vm,  vw, reduceIte, Nat.reduceEqDiff, reduceCtorEq]
    (refine hK _ ?_; clear hK K)
    refine s_oneg fun K hK => ?_
    simp only [vm, vr,  reduceIte, Nat.reduceEqDiff, reduceCtorEq]
    simp only [vm,  q6, vw, reduceIte, Nat.reduceEqDiff, reduceCtorEq]
    (refine hK _ ?_; clear hK K)
    refine s_oneg fun K hK => ?_
    simp only [vm, vr,  reduceIte, Nat.reduceEqDiff, reduceCtorEq]
    simp only [vm,  q6, vw, reduceIte, Nat.reduceEqDiff, Nat.reduceAdd, Nat.reduceLeDiff, reduceCtorEq]
    (refine hK _ ?_; clear hK K)
    refine s_oneg fun K hK => ?_
    simp only [vm, vr,  reduceIte, Nat.reduceEqDiff, reduceCtorEq]
    simp only [vm,  q6, vw, reduceIte, Nat.reduceEqDiff, Nat.reduceAdd, Nat.reduceLeDiff, reduceCtorEq]
    (refine hK _ ?_; clear hK K)
    refine s_oneg fun K hK => ?_
    simp only [vm, vr,  reduceIte, Nat.reduceEqDiff, reduceCtorEq]
    simp only [vm,  q6, vw, reduceIte, Nat.reduceEqDiff, reduceCtorEq]
    (refine hK _ ?_; clear hK K)
    refine s_oneg fun K hK => ?_
    simp only [vm, vr,  reduceIte, Nat.reduceEqDiff, reduceCtorEq]
    simp only [vm,  k3, vw, reduceIte, Nat.reduceEqDiff, reduceCtorEq]
    (refine hK _ ?_; clear hK K)
    simp only [vm, vr,  q6, k4, reduceIte, Nat.reduceEqDiff, reduceCtorEq]
    (refine hK _ ?_; clear hK K)
    simp only [thenV_n]
    all_goals (refine ⟨(), ?_, trivial⟩; ((show Wk _ _ _; simp only [vm, vmk, reduceIte, Nat.reduceEqDiff, Nat.reduceAdd, Nat.reduceLT, reduceCtorEq]; (try simp (disch := omega) only [wr64]); try omega)))
   | false =>
    refine c_reg1 fun K hK => ?_
    refine s_one fun K hK => ?_
    simp only [vm,  vw, reduceIte, Nat.reduceEqDiff, reduceCtorEq]
    (refine hK _ ?_; clear hK K)
    refine s_one fun K hK => ?_
    simp only [vm, vr,  vw, bne_self_eq_false, reduceIte, Nat.reduceEqDiff, reduceCtorEq]
    (refine hK _ ?_; clear hK K)
    refine s_one fun K hK => ?_
    simp only [vm, vr,  vw, reduceIte, Nat.reduceEqDiff, reduceCtorEq]
    (refine hK _ ?_; clear hK K)
    refine s_oneg fun K hK => ?_
    simp only [vm, vr,  reduceIte, Nat.reduceEqDiff, reduceCtorEq]
    simp only [vm,  vw, reduceIte, Nat.reduceEqDiff, reduceCtorEq]
    (refine hK _ ?_; clear hK K)
    refine s_oneg fun K hK => ?_
    simp only [vm, vr,  reduceIte, Nat.reduceEqDiff, reduceCtorEq]
    simp only [vm,  vw, bne_self_eq_false, reduceIte, Nat.reduceEqDiff, reduceCtorEq]
    (refine hK _ ?_; clear hK K)
    refine s_one fun K hK => ?_
    simp only [vm, vr,  vw, reduceIte, Nat.reduceEqDiff, reduceCtorEq]
    (refine hK _ ?_; clear hK K)
    refine s_one fun K hK => ?_
    simp only [vm, vr,  vw, reduceIte, Nat.reduceEqDiff, reduceCtorEq]
    (refine hK _ ?_; clear hK K)
    refine s_oneg fun K hK => ?_
    simp only [vm, vr,  reduceIte, Nat.reduceEqDiff, reduceCtorEq]
    simp only [vm,  vw, reduceIte, Nat.reduceEqDiff, reduceCtorEq]
    (refine hK _ ?_; clear hK K)
    refine s_oneg fun K hK => ?_
    simp only [vm, vr,  reduceIte, Nat.reduceEqDiff, reduceCtorEq]
    simp only [vm,  vw, bne_self_eq_false, reduceIte, Nat.reduceEqDiff, reduceCtorEq]
    (refine hK _ ?_; clear hK K)
    refine s_one fun K hK => ?_
    simp only [vm, vr,  vw, reduceIte, Nat.reduceEqDiff, reduceCtorEq]
    (refine hK _ ?_; clear hK K)
    refine s_one fun K hK => ?_
    simp only [vm, vr,  vw, reduceIte, Nat.reduceEqDiff, reduceCtorEq]
    (refine hK _ ?_; clear hK K)
    refine s_oneg fun K hK => ?_
    simp only [vm, vr,  reduceIte, Nat.reduceEqDiff, reduceCtorEq]
    simp only [vm,  vw, reduceIte, Nat.reduceEqDiff, reduceCtorEq]
    (refine hK _ ?_; clear hK K)
    refine s_oneg fun K hK => ?_
    simp only [vm, vr,  reduceIte, Nat.reduceEqDiff, reduceCtorEq]
    simp only [vm,  a2, vw, reduceIte, Nat.reduceEqDiff, reduceCtorEq]
    (refine hK _ ?_; clear hK K)
    refine s_oneg fun K hK => ?_
    simp only [vm, vr,  reduceIte, Nat.reduceEqDiff, reduceCtorEq]
    simp only [vm,  vw, reduceIte, Nat.reduceEqDiff, reduceCtorEq]
    (refine hK _ ?_; clear hK K)
    refine s_oneg fun K hK => ?_
    simp only [vm, vr,  reduceIte, Nat.reduceEqDiff, reduceCtorEq]
    (refine hK _ ?_; clear hK K)
    refine s_oneg fun K hK => ?_
    simp only [vm, vr,  reduceIte, Nat.reduceEqDiff, reduceCtorEq]
    (refine hK _ ?_; clear hK K)
    refine s_oneg fun K hK => ?_
    simp only [vm, vr,  reduceIte, Nat.reduceEqDiff, reduceCtorEq]
    simp only [vm,  vw, reduceIte, Nat.reduceEqDiff, reduceCtorEq]
    (refine hK _ ?_; clear hK K)
    refine s_one fun K hK => ?_
    simp only [vm, vr,  vw, reduceIte, Nat.reduceEqDiff, reduceCtorEq]
    (refine hK _ ?_; clear hK K)
    refine s_one fun K hK => ?_
    simp only [vm, vr,  vw, reduceIte, Nat.reduceEqDiff, reduceCtorEq]
    (refine hK _ ?_; clear hK K)
    refine s_oneg fun K hK => ?_
    simp only [vm, vr,  reduceIte, Nat.reduceEqDiff, reduceCtorEq]
    simp only [vm,  vw, reduceIte, Nat.reduceEqDiff, reduceCtorEq]
    (refine hK _ ?_; clear hK K)
    refine s_oneg fun K hK => ?_
    simp only [vm, vr,  reduceIte, Nat.reduceEqDiff, reduceCtorEq]
    simp only [vm,  a0, vw, reduceIte, Nat.reduceEqDiff, reduceCtorEq]
    (refine hK _ ?_; clear hK K)
    refine s_oneg fun K hK => ?_
    simp only [vm, vr,  reduceIte, Nat.reduceEqDiff, reduceCtorEq]
    simp only [vm,  vw, reduceIte, Nat.reduceEqDiff, reduceCtorEq]
    (refine hK _ ?_; clear hK K)
    refine s_oneg fun K hK => ?_
    simp only [vm, vr,  reduceIte, Nat.reduceEqDiff, reduceCtorEq]
    (refine hK _ ?_; clear hK K)
    refine s_oneg fun K hK => ?_
    simp only [vm, vr,  reduceIte, Nat.reduceEqDiff, reduceCtorEq]
    simp only [vm,  vw, reduceIte, Nat.reduceEqDiff, reduceCtorEq]
    (refine hK _ ?_; clear hK K)
    refine s_one fun K hK => ?_
    simp only [vm, vr,  vw, reduceIte, Nat.reduceEqDiff, reduceCtorEq]
    (refine hK _ ?_; clear hK K)
    refine s_one fun K hK => ?_
    simp only [vm, vr,  vw, reduceIte, Nat.reduceEqDiff, reduceCtorEq]
    (refine hK _ ?_; clear hK K)
    refine s_oneg fun K hK => ?_
    simp only [vm, vr,  reduceIte, Nat.reduceEqDiff, reduceCtorEq]
    simp only [vm,  vw, reduceIte, Nat.reduceEqDiff, reduceCtorEq]
    (refine hK _ ?_; clear hK K)
    refine s_oneg fun K hK => ?_
    simp only [vm, vr,  reduceIte, Nat.reduceEqDiff, reduceCtorEq]
    simp only [vm,  q6, vw, reduceIte, Nat.reduceEqDiff, reduceCtorEq]
    (refine hK _ ?_; clear hK K)
    refine s_oneg fun K hK => ?_
    simp only [vm, vr,  reduceIte, Nat.reduceEqDiff, reduceCtorEq]
    simp only [vm,  q6, vw, reduceIte, Nat.reduceEqDiff, Nat.reduceAdd, Nat.reduceLeDiff, reduceCtorEq]
    (refine hK _ ?_; clear hK K)
    refine s_oneg fun K hK => ?_
    simp only [vm, vr,  reduceIte, Nat.reduceEqDiff, reduceCtorEq]
    simp only [vm,  q6, vw, reduceIte, Nat.reduceEqDiff, Nat.reduceAdd, Nat.reduceLeDiff, reduceCtorEq]
    (refine hK _ ?_; clear hK K)
    refine s_oneg fun K hK => ?_
    simp only [vm, vr,  reduceIte, Nat.reduceEqDiff, reduceCtorEq]
    simp only [vm,  q6, vw, reduceIte, Nat.reduceEqDiff, reduceCtorEq]
    (refine hK _ ?_; clear hK K)
    refine s_oneg fun K hK => ?_
    simp only [vm, vr,  reduceIte, Nat.reduceEqDiff, reduceCtorEq]
    simp only [vm,  k3, vw, reduceIte, Nat.reduceEqDiff, reduceCtorEq]
    (refine hK _ ?_; clear hK K)
    simp only [vm, vr,  q6, k4, reduceIte, Nat.reduceEqDiff, reduceCtorEq]
    (refine hK _ ?_; clear hK K)
    simp only [thenV_n]
    all_goals (refine ⟨(), ?_, trivial⟩; ((show Wk _ _ _; simp only [vm, vmk, reduceIte, Nat.reduceEqDiff, Nat.reduceAdd, Nat.reduceLT, reduceCtorEq]; (try simp (disch := omega) only [wr64]); try omega)))
  | false =>
   have a2 : (A == 2) = false := by
    have : A ≠ 2 := fun e => by have := yes_keeps hr hMo hS (hA.trans e); rw [gK] at this; cases this
    simpa using this
   cases a0 : (A == 0) with
   | true =>
    refine c_reg1 fun K hK => ?_
    refine s_one fun K hK => ?_
    simp only [vm,  vw, reduceIte, Nat.reduceEqDiff, reduceCtorEq]
    (refine hK _ ?_; clear hK K)
    refine s_one fun K hK => ?_
    simp only [vm, vr,  vw, bne_self_eq_false, reduceIte, Nat.reduceEqDiff, reduceCtorEq]
    (refine hK _ ?_; clear hK K)
    refine s_one fun K hK => ?_
    simp only [vm, vr,  vw, reduceIte, Nat.reduceEqDiff, reduceCtorEq]
    (refine hK _ ?_; clear hK K)
    refine s_oneg fun K hK => ?_
    simp only [vm, vr,  reduceIte, Nat.reduceEqDiff, reduceCtorEq]
    simp only [vm,  vw, reduceIte, Nat.reduceEqDiff, reduceCtorEq]
    (refine hK _ ?_; clear hK K)
    refine s_oneg fun K hK => ?_
    simp only [vm, vr,  reduceIte, Nat.reduceEqDiff, reduceCtorEq]
    simp only [vm,  vw, bne_self_eq_false, reduceIte, Nat.reduceEqDiff, reduceCtorEq]
    (refine hK _ ?_; clear hK K)
    refine s_one fun K hK => ?_
    simp only [vm, vr,  vw, reduceIte, Nat.reduceEqDiff, reduceCtorEq]
    (refine hK _ ?_; clear hK K)
    refine s_one fun K hK => ?_
    simp only [vm, vr,  vw, reduceIte, Nat.reduceEqDiff, reduceCtorEq]
    (refine hK _ ?_; clear hK K)
    refine s_oneg fun K hK => ?_
    simp only [vm, vr,  reduceIte, Nat.reduceEqDiff, reduceCtorEq]
    simp only [vm,  vw, reduceIte, Nat.reduceEqDiff, reduceCtorEq]
    (refine hK _ ?_; clear hK K)
    refine s_oneg fun K hK => ?_
    simp only [vm, vr,  reduceIte, Nat.reduceEqDiff, reduceCtorEq]
    simp only [vm,  vw, bne_self_eq_false, reduceIte, Nat.reduceEqDiff, reduceCtorEq]
    (refine hK _ ?_; clear hK K)
    refine s_one fun K hK => ?_
    simp only [vm, vr,  vw, reduceIte, Nat.reduceEqDiff, reduceCtorEq]
    (refine hK _ ?_; clear hK K)
    refine s_one fun K hK => ?_
    simp only [vm, vr,  vw, reduceIte, Nat.reduceEqDiff, reduceCtorEq]
    (refine hK _ ?_; clear hK K)
    refine s_oneg fun K hK => ?_
    simp only [vm, vr,  reduceIte, Nat.reduceEqDiff, reduceCtorEq]
    simp only [vm,  vw, reduceIte, Nat.reduceEqDiff, reduceCtorEq]
    (refine hK _ ?_; clear hK K)
    refine s_oneg fun K hK => ?_
    simp only [vm, vr,  reduceIte, Nat.reduceEqDiff, reduceCtorEq]
    simp only [vm,  a2, vw, reduceIte, Nat.reduceEqDiff, reduceCtorEq]
    (refine hK _ ?_; clear hK K)
    refine s_oneg fun K hK => ?_
    simp only [vm, vr,  reduceIte, Nat.reduceEqDiff, reduceCtorEq]
    simp only [vm,  vw, reduceIte, Nat.reduceEqDiff, reduceCtorEq]
    (refine hK _ ?_; clear hK K)
    refine s_oneg fun K hK => ?_
    simp only [vm, vr,  reduceIte, Nat.reduceEqDiff, reduceCtorEq]
    (refine hK _ ?_; clear hK K)
    refine s_oneg fun K hK => ?_
    simp only [vm, vr,  reduceIte, Nat.reduceEqDiff, reduceCtorEq]
    (refine hK _ ?_; clear hK K)
    refine s_oneg fun K hK => ?_
    simp only [vm, vr,  reduceIte, Nat.reduceEqDiff, reduceCtorEq]
    simp only [vm,  vw, reduceIte, Nat.reduceEqDiff, reduceCtorEq]
    (refine hK _ ?_; clear hK K)
    refine s_one fun K hK => ?_
    simp only [vm, vr,  vw, reduceIte, Nat.reduceEqDiff, reduceCtorEq]
    (refine hK _ ?_; clear hK K)
    refine s_one fun K hK => ?_
    simp only [vm, vr,  vw, reduceIte, Nat.reduceEqDiff, reduceCtorEq]
    (refine hK _ ?_; clear hK K)
    refine s_oneg fun K hK => ?_
    simp only [vm, vr,  reduceIte, Nat.reduceEqDiff, reduceCtorEq]
    simp only [vm,  vw, reduceIte, Nat.reduceEqDiff, reduceCtorEq]
    (refine hK _ ?_; clear hK K)
    refine s_oneg fun K hK => ?_
    simp only [vm, vr,  reduceIte, Nat.reduceEqDiff, reduceCtorEq]
    simp only [vm,  a0, vw, reduceIte, Nat.reduceEqDiff, reduceCtorEq]
    (refine hK _ ?_; clear hK K)
    refine s_oneg fun K hK => ?_
    simp only [vm, vr,  reduceIte, Nat.reduceEqDiff, reduceCtorEq]
    simp only [vm,  vw, reduceIte, Nat.reduceEqDiff, reduceCtorEq]
    (refine hK _ ?_; clear hK K)
    refine s_oneg fun K hK => ?_
    simp only [vm, vr,  reduceIte, Nat.reduceEqDiff, reduceCtorEq]
    simp only [vm,  vw, reduceIte, Nat.reduceEqDiff, reduceCtorEq]
    (refine hK _ ?_; clear hK K)
    refine s_oneg fun K hK => ?_
    simp only [vm, vr,  reduceIte, Nat.reduceEqDiff, reduceCtorEq]
    simp only [vm,  vw, reduceIte, Nat.reduceEqDiff, reduceCtorEq]
    (refine hK _ ?_; clear hK K)
    refine s_one fun K hK => ?_
    simp only [vm, vr,  vw, reduceIte, Nat.reduceEqDiff, reduceCtorEq]
    (refine hK _ ?_; clear hK K)
    refine s_one fun K hK => ?_
    simp only [vm, vr,  vw, reduceIte, Nat.reduceEqDiff, reduceCtorEq]
    (refine hK _ ?_; clear hK K)
    refine s_oneg fun K hK => ?_
    simp only [vm, vr,  reduceIte, Nat.reduceEqDiff, reduceCtorEq]
    simp only [vm,  vw, reduceIte, Nat.reduceEqDiff, reduceCtorEq]
    (refine hK _ ?_; clear hK K)
    refine s_oneg fun K hK => ?_
    simp only [vm, vr,  reduceIte, Nat.reduceEqDiff, reduceCtorEq]
    simp only [vm,  q6, vw, reduceIte, Nat.reduceEqDiff, reduceCtorEq]
    (refine hK _ ?_; clear hK K)
    refine s_oneg fun K hK => ?_
    simp only [vm, vr,  reduceIte, Nat.reduceEqDiff, reduceCtorEq]
    simp only [vm,  q6, vw, reduceIte, Nat.reduceEqDiff, Nat.reduceAdd, Nat.reduceLeDiff, reduceCtorEq]
    (refine hK _ ?_; clear hK K)
    refine s_oneg fun K hK => ?_
    simp only [vm, vr,  reduceIte, Nat.reduceEqDiff, reduceCtorEq]
    simp only [vm,  q6, vw, reduceIte, Nat.reduceEqDiff, Nat.reduceAdd, Nat.reduceLeDiff, reduceCtorEq]
    (refine hK _ ?_; clear hK K)
    refine s_oneg fun K hK => ?_
    simp only [vm, vr,  reduceIte, Nat.reduceEqDiff, reduceCtorEq]
    simp only [vm,  q6, vw, reduceIte, Nat.reduceEqDiff, reduceCtorEq]
    (refine hK _ ?_; clear hK K)
    refine s_oneg fun K hK => ?_
    simp only [vm, vr,  reduceIte, Nat.reduceEqDiff, reduceCtorEq]
    simp only [vm,  k3, vw, reduceIte, Nat.reduceEqDiff, reduceCtorEq]
    (refine hK _ ?_; clear hK K)
    simp only [vm, vr,  q6, k4, reduceIte, Nat.reduceEqDiff, reduceCtorEq]
    (refine hK _ ?_; clear hK K)
    simp only [thenV_n]
    all_goals (refine ⟨(), ?_, trivial⟩; ((show Wk _ _ _; simp only [vm, vmk, reduceIte, Nat.reduceEqDiff, Nat.reduceAdd, Nat.reduceLT, reduceCtorEq]; (try simp (disch := omega) only [wr64]); try omega)))
   | false =>
    refine c_reg1 fun K hK => ?_
    refine s_one fun K hK => ?_
    simp only [vm,  vw, reduceIte, Nat.reduceEqDiff, reduceCtorEq]
    (refine hK _ ?_; clear hK K)
    refine s_one fun K hK => ?_
    simp only [vm, vr,  vw, bne_self_eq_false, reduceIte, Nat.reduceEqDiff, reduceCtorEq]
    (refine hK _ ?_; clear hK K)
    refine s_one fun K hK => ?_
    simp only [vm, vr,  vw, reduceIte, Nat.reduceEqDiff, reduceCtorEq]
    (refine hK _ ?_; clear hK K)
    refine s_oneg fun K hK => ?_
    simp only [vm, vr,  reduceIte, Nat.reduceEqDiff, reduceCtorEq]
    simp only [vm,  vw, reduceIte, Nat.reduceEqDiff, reduceCtorEq]
    (refine hK _ ?_; clear hK K)
    refine s_oneg fun K hK => ?_
    simp only [vm, vr,  reduceIte, Nat.reduceEqDiff, reduceCtorEq]
    simp only [vm,  vw, bne_self_eq_false, reduceIte, Nat.reduceEqDiff, reduceCtorEq]
    (refine hK _ ?_; clear hK K)
    refine s_one fun K hK => ?_
    simp only [vm, vr,  vw, reduceIte, Nat.reduceEqDiff, reduceCtorEq]
    (refine hK _ ?_; clear hK K)
    refine s_one fun K hK => ?_
    simp only [vm, vr,  vw, reduceIte, Nat.reduceEqDiff, reduceCtorEq]
    (refine hK _ ?_; clear hK K)
    refine s_oneg fun K hK => ?_
    simp only [vm, vr,  reduceIte, Nat.reduceEqDiff, reduceCtorEq]
    simp only [vm,  vw, reduceIte, Nat.reduceEqDiff, reduceCtorEq]
    (refine hK _ ?_; clear hK K)
    refine s_oneg fun K hK => ?_
    simp only [vm, vr,  reduceIte, Nat.reduceEqDiff, reduceCtorEq]
    simp only [vm,  vw, bne_self_eq_false, reduceIte, Nat.reduceEqDiff, reduceCtorEq]
    (refine hK _ ?_; clear hK K)
    refine s_one fun K hK => ?_
    simp only [vm, vr,  vw, reduceIte, Nat.reduceEqDiff, reduceCtorEq]
    (refine hK _ ?_; clear hK K)
    refine s_one fun K hK => ?_
    simp only [vm, vr,  vw, reduceIte, Nat.reduceEqDiff, reduceCtorEq]
    (refine hK _ ?_; clear hK K)
    refine s_oneg fun K hK => ?_
    simp only [vm, vr,  reduceIte, Nat.reduceEqDiff, reduceCtorEq]
    simp only [vm,  vw, reduceIte, Nat.reduceEqDiff, reduceCtorEq]
    (refine hK _ ?_; clear hK K)
    refine s_oneg fun K hK => ?_
    simp only [vm, vr,  reduceIte, Nat.reduceEqDiff, reduceCtorEq]
    simp only [vm,  a2, vw, reduceIte, Nat.reduceEqDiff, reduceCtorEq]
    (refine hK _ ?_; clear hK K)
    refine s_oneg fun K hK => ?_
    simp only [vm, vr,  reduceIte, Nat.reduceEqDiff, reduceCtorEq]
    simp only [vm,  vw, reduceIte, Nat.reduceEqDiff, reduceCtorEq]
    (refine hK _ ?_; clear hK K)
    refine s_oneg fun K hK => ?_
    simp only [vm, vr,  reduceIte, Nat.reduceEqDiff, reduceCtorEq]
    (refine hK _ ?_; clear hK K)
    refine s_oneg fun K hK => ?_
    simp only [vm, vr,  reduceIte, Nat.reduceEqDiff, reduceCtorEq]
    (refine hK _ ?_; clear hK K)
    refine s_oneg fun K hK => ?_
    simp only [vm, vr,  reduceIte, Nat.reduceEqDiff, reduceCtorEq]
    simp only [vm,  vw, reduceIte, Nat.reduceEqDiff, reduceCtorEq]
    (refine hK _ ?_; clear hK K)
    refine s_one fun K hK => ?_
    simp only [vm, vr,  vw, reduceIte, Nat.reduceEqDiff, reduceCtorEq]
    (refine hK _ ?_; clear hK K)
    refine s_one fun K hK => ?_
    simp only [vm, vr,  vw, reduceIte, Nat.reduceEqDiff, reduceCtorEq]
    (refine hK _ ?_; clear hK K)
    refine s_oneg fun K hK => ?_
    simp only [vm, vr,  reduceIte, Nat.reduceEqDiff, reduceCtorEq]
    simp only [vm,  vw, reduceIte, Nat.reduceEqDiff, reduceCtorEq]
    (refine hK _ ?_; clear hK K)
    refine s_oneg fun K hK => ?_
    simp only [vm, vr,  reduceIte, Nat.reduceEqDiff, reduceCtorEq]
    simp only [vm,  a0, vw, reduceIte, Nat.reduceEqDiff, reduceCtorEq]
    (refine hK _ ?_; clear hK K)
    refine s_oneg fun K hK => ?_
    simp only [vm, vr,  reduceIte, Nat.reduceEqDiff, reduceCtorEq]
    simp only [vm,  vw, reduceIte, Nat.reduceEqDiff, reduceCtorEq]
    (refine hK _ ?_; clear hK K)
    refine s_oneg fun K hK => ?_
    simp only [vm, vr,  reduceIte, Nat.reduceEqDiff, reduceCtorEq]
    (refine hK _ ?_; clear hK K)
    refine s_oneg fun K hK => ?_
    simp only [vm, vr,  reduceIte, Nat.reduceEqDiff, reduceCtorEq]
    simp only [vm,  vw, reduceIte, Nat.reduceEqDiff, reduceCtorEq]
    (refine hK _ ?_; clear hK K)
    refine s_one fun K hK => ?_
    simp only [vm, vr,  vw, reduceIte, Nat.reduceEqDiff, reduceCtorEq]
    (refine hK _ ?_; clear hK K)
    refine s_one fun K hK => ?_
    simp only [vm, vr,  vw, reduceIte, Nat.reduceEqDiff, reduceCtorEq]
    (refine hK _ ?_; clear hK K)
    refine s_oneg fun K hK => ?_
    simp only [vm, vr,  reduceIte, Nat.reduceEqDiff, reduceCtorEq]
    simp only [vm,  vw, reduceIte, Nat.reduceEqDiff, reduceCtorEq]
    (refine hK _ ?_; clear hK K)
    refine s_oneg fun K hK => ?_
    simp only [vm, vr,  reduceIte, Nat.reduceEqDiff, reduceCtorEq]
    simp only [vm,  q6, vw, reduceIte, Nat.reduceEqDiff, reduceCtorEq]
    (refine hK _ ?_; clear hK K)
    refine s_oneg fun K hK => ?_
    simp only [vm, vr,  reduceIte, Nat.reduceEqDiff, reduceCtorEq]
    simp only [vm,  q6, vw, reduceIte, Nat.reduceEqDiff, Nat.reduceAdd, Nat.reduceLeDiff, reduceCtorEq]
    (refine hK _ ?_; clear hK K)
    refine s_oneg fun K hK => ?_
    simp only [vm, vr,  reduceIte, Nat.reduceEqDiff, reduceCtorEq]
    simp only [vm,  q6, vw, reduceIte, Nat.reduceEqDiff, Nat.reduceAdd, Nat.reduceLeDiff, reduceCtorEq]
    (refine hK _ ?_; clear hK K)
    refine s_oneg fun K hK => ?_
    simp only [vm, vr,  reduceIte, Nat.reduceEqDiff, reduceCtorEq]
    simp only [vm,  q6, vw, reduceIte, Nat.reduceEqDiff, reduceCtorEq]
    (refine hK _ ?_; clear hK K)
    refine s_oneg fun K hK => ?_
    simp only [vm, vr,  reduceIte, Nat.reduceEqDiff, reduceCtorEq]
    simp only [vm,  k3, vw, reduceIte, Nat.reduceEqDiff, reduceCtorEq]
    (refine hK _ ?_; clear hK K)
    simp only [vm, vr,  q6, k4, reduceIte, Nat.reduceEqDiff, reduceCtorEq]
    (refine hK _ ?_; clear hK K)
    simp only [thenV_n]
    all_goals (refine ⟨(), ?_, trivial⟩; ((show Wk _ _ _; simp only [vm, vmk, reduceIte, Nat.reduceEqDiff, Nat.reduceAdd, Nat.reduceLT, reduceCtorEq]; (try simp (disch := omega) only [wr64]); try omega)))
theorem law_every (r : PRules) (s : PSched) (m : PMat) : Sp0 6 [rulV r, schV s, matV m] (R.v (.b true)) := by
 cases h : fewV r s with
 | false => exact elaw_far r s m h
 | true =>
  by_cases hB : (bothE r s).2 = 0
  ·
   by_cases hm : m.losses.length = r.stands.length
   ·
    by_cases hM : (matE r m).2 = 0
    ·
     exact elaw_ok r s m h hB hm hM
    ·
     exact elaw_mat r s m h hB hm hM
   ·
    exact elaw_long r s m h hB hm
  ·
   exact elaw_err r s m h hB
end Go.Vm
