import Derived.Test.YtomnkckbmnbilaaDoorVmBC
import Derived.Test.YtomnkckbmnbilaaDoorWpMb
set_option linter.all false
namespace Go.Vm
open Go.Proofs
set_option maxRecDepth 20000
set_option maxHeartbeats 8000000
--DEF ONE = nn r.width, nn r.start, nn r.finish, nn m.heat, nn m.heat, nn r.cold, .sl ((stN r.stands m.losses r.stands.length).map stdV), nn m.stress, nn m.stress, nn m.friction, nn m.friction
--DEF BMIL = (Key.b 18, M.box 12), (Key.c 18 0, M.cell (L.p (nn r.width))), (Key.c 18 1, M.cell (L.p (nn r.start))), (Key.c 18 2, M.cell (L.p (nn r.finish))), (Key.c 18 3, M.cell (L.p (nn m.heat))), (Key.c 18 4, M.cell (L.p (nn m.heat))), (Key.c 18 5, M.cell (L.p (nn r.cold))), (Key.c 18 6, M.cell (L.p (V.sl ((stN r.stands m.losses r.stands.length).map stdV)))), (Key.c 18 7, M.cell (L.p (nn m.stress))), (Key.c 18 8, M.cell (L.p (nn m.stress))), (Key.c 18 9, M.cell (L.p (nn m.friction))), (Key.c 18 10, M.cell (L.p (nn m.friction))), (Key.c 18 11, M.cell (L.arr 81 0)), (Key.a 81, M.arr 0 23 2 ((LS (oneR r m)).map p2)), (Key.f 81, M.frz), (Key.a 1217, M.arr 0 120 3 ((drs r s s.ths.length).map d3))
--DEF RUL = nn r.width; nn r.start; nn r.finish; nn r.hlo; nn r.hhi; nn r.cold; V.sl (r.stands.map stdV); nn r.slo; nn r.shi; nn r.flo; nn r.fhi
theorem spec14w3 (r : PRules) (s : PSched) (m : PMat) (hl : r.stands.length < 1000000) (hn : s.name.size < 1000000) (hs : s.ths.length < 1000000) (hm : m.losses.length < 1000000) (hE : (bothE r s).2 = 0) (hr : RulOk r) (hS : SchOk r s) (hM : (matB r m).2 = 0) (hM2 : MatOk r m) (h1 : RulOk (oneR r m)) (h2 : SchOk (oneR r m) s) : Sp0 14 [rulV r, schV s, matV m] (R.v3 (.sl ((matL r s m s.ths.length).map p2)) (.b (keepV r s m s.ths.length)) (nn 0)) := by
 have k1 : ((matB r m).2 != 0) = false := by simpa using hM
 have hne : r.stands ≠ [] := fun e => by have := hr.len; rw [e] at this; simp at this
 refine spec_of mixed (fun _ _ _ h => h) Tryd.func14 (by decide +kernel) rfl (rs := _) rfl (by rfl) rfl (by simp [Tryd.f14]) (by decide +kernel) ?_; simp only [argsG, Nat.zero_add, Nat.reduceAdd]
 refine c_reg fun K hK => ?_
 simp only [vm, vr, reduceIte, Nat.reduceEqDiff, Nat.reduceAdd, reduceCtorEq]
 refine need_by (by first | assumption | omega | (simp; done) | (simp; omega)) ?_
 refine need_by (by first | assumption | omega | (simp; done) | (simp; omega)) ?_
 refine need_by (by first | assumption | omega | (simp; done) | (simp; omega)) ?_
 (refine hK _ ?_; clear hK K)
 refine c_reg fun K hK => ?_
 simp only [vm, vr, q14, reduceIte, Nat.reduceEqDiff, Nat.reduceAdd, Nat.reduceLeDiff, reduceCtorEq]
 (apply s_callx (spec65w2 _ _ ?s1602x1 ?s1602x2 ?s1602x3 ?s1602x4 ?s1602x5 ?s1602x6); (case hf => rfl); (case hq => (simp only [vm, reduceIte, Nat.reduceEqDiff, reduceCtorEq]; rfl)); (case hvs => rfl); (case hL => (simp only [vm, R.toL, R1.toL, rcsToL, RC.toL, r1sToL, siteN, reduceIte, Nat.reduceAdd, Nat.reduceMul, reduceCtorEq]; rfl)); (case hfr => (simp only [vm, vr, reduceIte, Nat.reduceEqDiff, reduceCtorEq]; try rfl)); (case s1602x1 | s1602x2 | s1602x3 | s1602x4 | s1602x5 | s1602x6 => first | assumption | omega | (simp; done) | (simp; omega)))
 simp only [vm, vr, vp, q14, reduceIte, Nat.reduceEqDiff, Nat.reduceAdd, Nat.reduceLeDiff, reduceCtorEq]
 refine need_by (by first | assumption | omega | (simp; done) | (simp; omega)) ?_
 (refine hK _ ?_; clear hK K)
 refine c_assoc ?_
 refine c_reg fun K hK => ?_
 simp only [vm, vr, bne_self_eq_false, reduceIte, Nat.reduceEqDiff, reduceCtorEq]
 (refine hK _ ?_; clear hK K)
 refine c_if _ rfl (fun hb1 => ?_) (fun hb1 => ?_) <;> (have hp1 := hb1; try simp only [] at hp1)
 cases hb1
 refine c_skip ?_
 refine c_assoc ?_
 refine c_reg fun K hK => ?_
 simp only [vm, vr, q14, reduceIte, Nat.reduceEqDiff, Nat.reduceAdd, Nat.reduceLeDiff, reduceCtorEq]
 (apply s_call2 (spec11 _ _ ?s1603x1 ?s1603x2); (case hf => rfl); (case hq => (simp only [vm, reduceIte, Nat.reduceEqDiff, reduceCtorEq]; rfl)); (case hvs => rfl); (case s1603x1 | s1603x2 => first | assumption | omega | (simp; done) | (simp; omega)))
 simp only [vm, vr, reduceIte, Nat.reduceEqDiff, reduceCtorEq]
 (refine hK _ ?_; clear hK K)
 refine c_assoc ?_
 refine c_reg fun K hK => ?_
 simp only [vm, vr, k1, reduceIte, Nat.reduceEqDiff, reduceCtorEq]
 (refine hK _ ?_; clear hK K)
 refine c_if _ rfl (fun hb2 => ?_) (fun hb2 => ?_) <;> (have hp2 := hb2; try simp only [] at hp2)
 cases hb2
 refine c_skip ?_
 refine c_reg fun K hK => ?_
 simp only [vm, vr]
 (refine hK _ ?_; clear hK K)
 refine c_reg fun K hK => ?_
 simp only [vm, vr, q14, reduceIte, Nat.reduceEqDiff, Nat.reduceAdd, Nat.reduceLeDiff, reduceCtorEq]
 refine need_by (by first | assumption | omega | (simp; done) | (simp; omega)) ?_
 (refine hK _ ?_; clear hK K)
 refine c_draw fun K hK => ?_
 simp only [vm, vr, q14, reduceIte, Nat.reduceEqDiff, Nat.reduceLeDiff, reduceCtorEq]
 (apply d_call (spec66 _); (case hf => rfl); (case hq => (simp only [vm, reduceIte, Nat.reduceEqDiff, reduceCtorEq]; rfl)); (case hvs => rfl))
 simp only [vm, vr, q14, reduceIte, Nat.reduceEqDiff, Nat.reduceAdd, Nat.reduceLeDiff, reduceCtorEq]
 (apply d_call (spec66 _); (case hf => rfl); (case hq => (simp only [vm, reduceIte, Nat.reduceEqDiff, reduceCtorEq]; rfl)); (case hvs => rfl))
 simp only [vm, vr, q14, reduceIte, Nat.reduceEqDiff, Nat.reduceAdd, Nat.reduceLeDiff, reduceCtorEq]
 (apply d_call (spec66 _); (case hf => rfl); (case hq => (simp only [vm, reduceIte, Nat.reduceEqDiff, reduceCtorEq]; rfl)); (case hvs => rfl))
 simp only [vm, vr, q14, reduceIte, Nat.reduceEqDiff, Nat.reduceAdd, Nat.reduceLeDiff, reduceCtorEq]
 (refine draw_ok (by decide +kernel) (hK _ ?_); clear hK; clear K)
 refine c_reg fun K hK => ?_
 simp only [vm, vr, q14, reduceIte, Nat.reduceEqDiff, Nat.reduceAdd, Nat.reduceLeDiff, reduceCtorEq]
 (apply s_calla (spec67 _ ?s1607x1 ?s1607x2); (case hf => rfl); (case hq => (simp only [vm, reduceIte, Nat.reduceEqDiff, reduceCtorEq]; rfl)); (case hvs => rfl); (case hfr => (simp only [vm, reduceIte, Nat.reduceEqDiff, reduceCtorEq])); (case hfz => rfl); (case s1607x1 | s1607x2 => first | assumption | omega | (simp; done) | (simp; omega)))
 simp only [vm, vr, q14, reduceIte, Nat.reduceEqDiff, Nat.reduceAdd, Nat.reduceLeDiff, reduceCtorEq]
 (refine hK _ ?_; clear hK K)
 refine c_assoc ?_
 refine c_reg fun K hK => ?_
 simp only [vm, vr, q14, reduceIte, Nat.reduceEqDiff, Nat.reduceAdd, Nat.reduceLeDiff, reduceCtorEq]
 (refine hK _ ?_; clear hK K)
 refine c_block ?_
 have hml := hM2.len
 have hdl : (drs r s s.ths.length).length = s.ths.length := drs_len
 have hsl := hS.len
 have hrl := hr.len
 refine vcode_loop (fun i : Nat => [(6, L.nilS), (7, L.p (V.b false)), (8, L.p (nn 0)), (10, L.arr 1217 0), (14, L.p (V.fn 66 [] [])), (15, L.own 15 0), (64, L.p (V.sl (List.map nn m.losses))), (65, L.p (V.i IntKind.i64 ↑m.losses.length)), (66, L.p (nn i))]) (fun i => [(Key.b 15, M.box 11), (Key.c 15 0, M.cell (L.p (nn r.width))), (Key.c 15 1, M.cell (L.p (nn r.start))), (Key.c 15 2, M.cell (L.p (nn r.finish))), (Key.c 15 3, M.cell (L.p (nn m.heat))), (Key.c 15 4, M.cell (L.p (nn m.heat))), (Key.c 15 5, M.cell (L.p (nn r.cold))), (Key.c 15 6, M.cell (L.arr 61 0)), (Key.c 15 7, M.cell (L.p (nn m.stress))), (Key.c 15 8, M.cell (L.p (nn m.stress))), (Key.c 15 9, M.cell (L.p (nn m.friction))), (Key.c 15 10, M.cell (L.p (nn m.friction))), (Key.a 61, M.arr 0 60 5 ((stN r.stands m.losses i).map stdV)), (Key.a 1217, M.arr 0 120 3 ((drs r s s.ths.length).map d3))]) (fun i => i ≤ m.losses.length) (fun i => m.losses.length - i) 0 (Nat.zero_le _) ?_ ?_
 ·
  (simp only [vm, vmk, reduceIte, Nat.reduceEqDiff, Nat.reduceAdd, Nat.reduceLT, reduceCtorEq]; try simp (disch := omega) only [wr64]; try omega)
  rfl
 ·
  intro i hi
  have hnl : (stN r.stands m.losses i).length = r.stands.length := stN_len
  rcases Nat.lt_or_ge i m.losses.length with hil | hil
  ·
   have kl : decide ((i : Int) < (m.losses.length : Int)) = true := decide_eq_true (by omega)
   have hat : (stN r.stands m.losses i).getD i default = r.stands.getD i default := by rw [stN_at (by omega), if_neg (by omega)]
   refine c_reg fun K hK => ?_
   simp only [vm, vr, kl, reduceIte, Nat.reduceEqDiff]
   (refine hK _ ?_; clear hK K)
   refine c_if _ rfl (fun hb3 => ?_) (fun hb3 => ?_) <;> (have hp3 := hb3; try simp only [] at hp3)
   refine c_skip ?_
   refine c_block ?_
   refine c_reg fun K hK => ?_
   simp only [vm, vr, q14, reduceIte, Nat.reduceEqDiff]
   (refine atI_map 0 (by first | assumption | omega | (simp; done) | (simp; omega)) (by first | assumption | omega | (simp; done) | (simp; omega)) ?_; simp only [vm, vr, q14])
   (refine hK _ ?_; clear hK K)
   refine c_draw1 fun K hK => ?_
   simp only [vm, vr, q14, reduceIte, Nat.reduceEqDiff, Nat.reduceAdd, Nat.reduceLeDiff, reduceCtorEq]
   (apply d_call (spec66 _); (case hf => rfl); (case hq => (simp only [vm, reduceIte, Nat.reduceEqDiff]; rfl)); (case hvs => rfl))
   simp only [vm, vr, q14, reduceIte, Nat.reduceEqDiff, Nat.reduceAdd, reduceCtorEq]
   refine need_by (by first | assumption | omega | (simp; done) | (simp; omega)) ?_
   (refine want_map default (by first | assumption | omega | (simp; done) | (simp; omega)) ?_; simp only [vm, vr, hat, Nat.reduceAdd, Nat.reduceLeDiff])
   (refine draw_ok (by decide +kernel) (hK _ ?_); clear hK; clear K)
   simp only [thenV_n, blockV_n]
   refine c_reg1 fun K hK => ?_
   simp only [vm, vr, reduceIte, Nat.reduceEqDiff]
   (simp (disch := omega) only [wr64]; try simp only [vm, vr, vt, vp, q14, mapstd, mapd3, conts_arr, mapp2, kl, hat, hb1, hb2, hb3, reduceIte, Nat.reduceEqDiff, Nat.reduceAdd, Nat.reduceLeDiff, Nat.reduceMul, Nat.reduceLT, reduceCtorEq])
   (refine hK _ ?_; clear hK K)
   simp only [thenV_n]
   rotate_left
   cases hb3
   refine ⟨i + 1, ?_, by omega, by omega⟩
   ((show Wk _ _ _; simp only [vm, vmk, reduceIte, Nat.reduceEqDiff, Nat.reduceAdd, Nat.reduceLT, reduceCtorEq]; (try simp (disch := omega) only [wr64]); try omega))
   exact ⟨by omega, by simp only [stN, List.map_set]; rfl⟩
  ·
   have kl : decide ((i : Int) < (m.losses.length : Int)) = false := decide_eq_false_iff_not.2 (by omega)
   have hie : i = r.stands.length := by omega
   have hs68 : Sp0 68 [.agg [nn r.width, nn r.start, nn r.finish, nn m.heat, nn m.heat, nn r.cold, .sl ((stN r.stands m.losses r.stands.length).map stdV), nn m.stress, nn m.stress, nn m.friction, nn m.friction]] (.one (.agg [.p (nn r.width), .p (nn r.start), .p (nn r.finish), .p (nn m.heat), .p (nn m.heat), .p (nn r.cold), .p (.sl ((stN r.stands m.losses r.stands.length).map stdV)), .p (nn m.stress), .p (nn m.stress), .p (nn m.friction), .p (nn m.friction), .arr 23 2 ((LS (oneR r m)).map p2)])) := spec68 (oneR r m) h1
   subst hie
   refine c_reg fun K hK => ?_
   simp only [vm, vr, kl, reduceIte, Nat.reduceEqDiff]
   (refine hK _ ?_; clear hK K)
   refine c_if _ rfl (fun hb3 => ?_) (fun hb3 => ?_) <;> (have hp3 := hb3; try simp only [] at hp3)
   cases hb3
   refine c_exit ?_
   simp only [thenV_n, thenV_e, blockV_e, reduceIte]
   refine c_reg fun K hK => ?_
   simp only [vm, vr, vp, q14, reduceIte, Nat.reduceEqDiff, Nat.reduceAdd, Nat.reduceLeDiff, reduceCtorEq]
   (apply s_callx (hs68); (case hf => rfl); (case hq => (simp only [vm, vr, reduceIte, Nat.reduceEqDiff, reduceCtorEq]; rfl)); (case hvs => rfl); (case hL => (simp only [vm, R.toL, R1.toL, rcsToL, RC.toL, siteN, reduceIte, Nat.reduceAdd, Nat.reduceMul]; rfl)); (case hfr => (simp only [vm, vr, reduceIte, Nat.reduceEqDiff, reduceCtorEq]; try rfl)))
   simp only [vm, vr, vp, q14, reduceIte, Nat.reduceEqDiff, Nat.reduceAdd, Nat.reduceLeDiff, reduceCtorEq]
   refine need_by (by first | assumption | omega | (simp; done) | (simp; omega)) ?_
   (refine hK _ ?_; clear hK K)
   refine c_reg fun K hK => ?_
   simp only [vm, vr]
   (refine hK _ ?_; clear hK K)
   refine c_assoc ?_
   refine c_reg fun K hK => ?_
   simp only [vm, vr, q14, reduceIte, Nat.reduceEqDiff, reduceCtorEq]
   (refine hK _ ?_; clear hK K)
   refine c_block ?_
   refine vcode_loop (fun x : Nat × Bool => [(6, L.nilS), (7, L.p (V.b false)), (8, L.p (nn 0)), (10, L.arr 1217 0), (18, L.own 18 0), (19, L.p (V.b x.2)), (82, L.arr 1217 0), (83, L.p (V.i IntKind.i64 ↑(drs r s s.ths.length).length)), (84, L.p (nn x.1))]) (fun _ => [(Key.b 18, M.box 12), (Key.c 18 0, M.cell (L.p (nn r.width))), (Key.c 18 1, M.cell (L.p (nn r.start))), (Key.c 18 2, M.cell (L.p (nn r.finish))), (Key.c 18 3, M.cell (L.p (nn m.heat))), (Key.c 18 4, M.cell (L.p (nn m.heat))), (Key.c 18 5, M.cell (L.p (nn r.cold))), (Key.c 18 6, M.cell (L.p (V.sl ((stN r.stands m.losses r.stands.length).map stdV)))), (Key.c 18 7, M.cell (L.p (nn m.stress))), (Key.c 18 8, M.cell (L.p (nn m.stress))), (Key.c 18 9, M.cell (L.p (nn m.friction))), (Key.c 18 10, M.cell (L.p (nn m.friction))), (Key.c 18 11, M.cell (L.arr 81 0)), (Key.a 81, M.arr 0 23 2 ((LS (oneR r m)).map p2)), (Key.f 81, M.frz), (Key.a 1217, M.arr 0 120 3 ((drs r s s.ths.length).map d3))]) (fun x => x.1 ≤ s.ths.length ∧ x.2 = keepV r s m x.1) (fun x => s.ths.length - x.1) (0, true) ⟨Nat.zero_le _, rfl⟩ ?_ ?_
   ·
    simp only [vm, vmk, reduceIte, Nat.reduceEqDiff, Nat.reduceAdd, Nat.reduceLT, reduceCtorEq]
   ·
    rintro ⟨i, b⟩ ⟨hi, gb⟩
    simp only at hi gb ⊢
    rcases Nat.lt_or_ge i s.ths.length with hil | hil
    ·
     have kl : decide ((i : Int) < ((drs r s s.ths.length).length : Int)) = true := decide_eq_true (by omega)
     have hda : (drs r s s.ths.length).getD i default = drV r s i := drs_at hil
     obtain ⟨_, n0, m1, m2, m3, m4⟩ := mh_of h1 h2 hil
     have hs69 : Sp0 69 [.agg [nn r.width, nn r.start, nn r.finish, nn m.heat, nn m.heat, nn r.cold, .sl ((stN r.stands m.losses r.stands.length).map stdV), nn m.stress, nn m.stress, nn m.friction, nn m.friction, .sl ((LS (oneR r m)).map p2)], .agg [nn i, nn (befV r s i), nn (s.ths.getD i 0)]] (R.v (marV (marS (oneR r m) s i))) := spec69 (oneR r m) (LS (oneR r m)) i _ _ h1 n0 (by unfold LS; rw [lossL_len]; exact n0) (los_ok h1) m1 m2 m3 m4
     refine c_reg fun K hK => ?_
     simp only [vm, vr, kl, reduceIte, Nat.reduceEqDiff]
     (refine hK _ ?_; clear hK K)
     refine c_if _ rfl (fun hb4 => ?_) (fun hb4 => ?_) <;> (have hp4 := hb4; try simp only [] at hp4)
     refine c_skip ?_
     refine c_block ?_
     refine c_reg fun K hK => ?_
     simp only [vm, vr, q14, reduceIte, Nat.reduceEqDiff, Nat.reduceAdd, Nat.reduceLeDiff, reduceCtorEq]
     refine need_by (by first | assumption | omega | (simp; done) | (simp; omega)) ?_
     (refine want_map default (by first | assumption | omega | (simp; done) | (simp; omega)) ?_; simp only [vm, vr, hda, drV, reduceIte, Nat.reduceAdd, Nat.reduceLeDiff])
     refine need_by (by first | assumption | omega | (simp; done) | (simp; omega)) ?_
     (refine hK _ ?_; clear hK K)
     refine c_reg fun K hK => ?_
     simp only [vm, vr, vp, q14, reduceIte, Nat.reduceEqDiff, Nat.reduceAdd, Nat.reduceLeDiff, reduceCtorEq]
     (apply s_call (hs69); (case hf => rfl); (case hq => (simp only [vm, vr, reduceIte, Nat.reduceEqDiff, reduceCtorEq]; rfl)); (case hvs => rfl))
     simp only [vm, vr]
     (refine hK _ ?_; clear hK K)
     refine c_block1 ?_
     rotate_left
     cases hb4
     refine vcode_loop (fun x : Int × Bool => [(6, L.nilS), (7, L.p (V.b false)), (8, L.p (nn 0)), (10, L.arr 1217 0), (18, L.own 18 0), (19, L.p (V.b x.2)), (82, L.arr 1217 0), (83, L.p (V.i IntKind.i64 ↑(drs r s s.ths.length).length)), (84, L.p (nn i)), (90, L.p (marV (marS (oneR r m) s i))), (91, L.p (nn x.1))]) (fun _ => [(Key.b 18, M.box 12), (Key.c 18 0, M.cell (L.p (nn r.width))), (Key.c 18 1, M.cell (L.p (nn r.start))), (Key.c 18 2, M.cell (L.p (nn r.finish))), (Key.c 18 3, M.cell (L.p (nn m.heat))), (Key.c 18 4, M.cell (L.p (nn m.heat))), (Key.c 18 5, M.cell (L.p (nn r.cold))), (Key.c 18 6, M.cell (L.p (V.sl ((stN r.stands m.losses r.stands.length).map stdV)))), (Key.c 18 7, M.cell (L.p (nn m.stress))), (Key.c 18 8, M.cell (L.p (nn m.stress))), (Key.c 18 9, M.cell (L.p (nn m.friction))), (Key.c 18 10, M.cell (L.p (nn m.friction))), (Key.c 18 11, M.cell (L.arr 81 0)), (Key.a 81, M.arr 0 23 2 ((LS (oneR r m)).map p2)), (Key.f 81, M.frz), (Key.a 1217, M.arr 0 120 3 ((drs r s s.ths.length).map d3))]) (fun x => 0 ≤ x.1 ∧ x.1 ≤ 4 ∧ x.2 = (keepV r s m i && !lowQ ((marS (oneR r m) s i).take x.1.toNat))) (fun x => (4 - x.1).toNat) (0, b) ⟨Int.le_refl _, by simp only; omega, by rw [gb]; show keepV r s m i = (keepV r s m i && !lowQ []); rw [show lowQ [] = false from rfl]; simp⟩ ?_ ?_
     ·
      simp only [vm, vmk, reduceIte, Nat.reduceEqDiff, Nat.reduceAdd, Nat.reduceLT, reduceCtorEq]
     ·
      rintro ⟨j, c⟩ ⟨h0, h4, gc⟩
      simp only at h0 h4 gc ⊢
      obtain rfl | rfl | rfl | rfl | rfl : j = 0 ∨ j = 1 ∨ j = 2 ∨ j = 3 ∨ j = 4 := by omega
      ·
       have gs := low_take (M := marS (oneR r m) s i) (j := 0) (by rw [marS_len]; omega)
       have gc' : c = (keepV r s m i && !lowQ ((marS (oneR r m) s i).take 0)) := gc
       have ge : ∀ d, decide (((marS (oneR r m) s i).getD 0 default).1 < 0) = d → (keepV r s m i && !lowQ ((marS (oneR r m) s i).take (0 + 1))) = (c && !d) := fun d hd => by rw [gs, hd, gc']; cases keepV r s m i <;> cases lowQ ((marS (oneR r m) s i).take 0) <;> cases d <;> rfl
       cases c with
       | false =>
        refine c_reg fun K hK => ?_
        simp only [vm, vr, marV, Int.reduceLT, decide_true, reduceIte, Nat.reduceEqDiff]
        (refine hK _ ?_; clear hK K)
        refine c_if _ rfl (fun hb5 => ?_) (fun hb5 => ?_) <;> (have hp5 := hb5; try simp only [] at hp5)
        refine c_skip ?_
        refine c_block ?_
        refine c_reg fun K hK => ?_
        simp only [vm, vr, vp, q14, Int.reduceLE, reduceIte, Nat.reduceEqDiff, Nat.reduceAdd, Nat.reduceLeDiff, Nat.reduceMul, reduceCtorEq]
        refine need_by (by first | assumption | omega | (simp; done) | (simp; omega)) ?_
        refine need_by (by first | assumption | omega | (simp; done) | (simp; omega)) ?_
        (refine hK _ ?_; clear hK K)
        refine c_reg1 fun K hK => ?_
        simp only [vm, vr, reduceIte, Nat.reduceEqDiff]
        (refine hK _ ?_; clear hK K)
        simp only [thenV_n, blockV_n]
        refine c_reg1 fun K hK => ?_
        simp only [vm, vr, reduceIte, Nat.reduceEqDiff]
        (simp (disch := omega) only [wr64]; try simp only [vm, vr, vt, vp, q14, marV, hb1, hb2, hb3, hb4, hb5, reduceIte, Nat.reduceEqDiff, Nat.reduceAdd, Nat.reduceLeDiff, Nat.reduceMul, Nat.reduceLT, reduceCtorEq])
        (refine hK _ ?_; clear hK K)
        simp only [thenV_n]
        rotate_left
        cases hb5
        refine ⟨(1, false), ?_, ⟨by simp only; omega, by simp only; omega, (by show false = (keepV r s m i && !lowQ ((marS (oneR r m) s i).take (0 + 1))); rw [ge _ rfl]; rfl)⟩, by simp only; omega⟩
        ((show Wk _ _ _; simp only [vm, vmk, reduceIte, Nat.reduceEqDiff, Nat.reduceAdd, Nat.reduceLT, reduceCtorEq]; (try simp (disch := omega) only [wr64]); try omega))
       | true =>
        cases gl : decide (((marS (oneR r m) s i).getD 0 default).1 ≥ 0) with
        | false =>
         have gl' := of_decide_eq_false gl
         refine c_reg fun K hK => ?_
         simp only [vm, vr, marV, Int.reduceLT, decide_true, reduceIte, Nat.reduceEqDiff]
         (refine hK _ ?_; clear hK K)
         refine c_if _ rfl (fun hb5 => ?_) (fun hb5 => ?_) <;> (have hp5 := hb5; try simp only [] at hp5)
         refine c_skip ?_
         refine c_block ?_
         refine c_reg fun K hK => ?_
         simp only [vm, vr, vp, q14, Int.reduceLE, reduceIte, Nat.reduceEqDiff, Nat.reduceAdd, Nat.reduceLeDiff, Nat.reduceMul, reduceCtorEq]
         refine need_by (by first | assumption | omega | (simp; done) | (simp; omega)) ?_
         refine need_by (by first | assumption | omega | (simp; done) | (simp; omega)) ?_
         (refine hK _ ?_; clear hK K)
         refine c_reg1 fun K hK => ?_
         simp only [vm, vr, q14, gl, reduceIte, Nat.reduceEqDiff, Nat.reduceLeDiff, reduceCtorEq]
         (refine hK _ ?_; clear hK K)
         simp only [thenV_n, blockV_n]
         refine c_reg1 fun K hK => ?_
         simp only [vm, vr, reduceIte, Nat.reduceEqDiff]
         (simp (disch := omega) only [wr64]; try simp only [vm, vr, vt, vp, q14, marV, gl, hb1, hb2, hb3, hb4, hb5, reduceIte, Nat.reduceEqDiff, Nat.reduceAdd, Nat.reduceLeDiff, Nat.reduceMul, Nat.reduceLT, reduceCtorEq])
         (refine hK _ ?_; clear hK K)
         simp only [thenV_n]
         rotate_left
         cases hb5
         refine ⟨(1, false), ?_, ⟨by simp only; omega, by simp only; omega, (by show false = (keepV r s m i && !lowQ ((marS (oneR r m) s i).take (0 + 1))); rw [ge true (decide_eq_true (by omega))]; rfl)⟩, by simp only; omega⟩
         ((show Wk _ _ _; simp only [vm, vmk, reduceIte, Nat.reduceEqDiff, Nat.reduceAdd, Nat.reduceLT, reduceCtorEq]; (try simp (disch := omega) only [wr64]); try omega))
        | true =>
         have gl' := of_decide_eq_true gl
         refine c_reg fun K hK => ?_
         simp only [vm, vr, marV, Int.reduceLT, decide_true, reduceIte, Nat.reduceEqDiff]
         (refine hK _ ?_; clear hK K)
         refine c_if _ rfl (fun hb5 => ?_) (fun hb5 => ?_) <;> (have hp5 := hb5; try simp only [] at hp5)
         refine c_skip ?_
         refine c_block ?_
         refine c_reg fun K hK => ?_
         simp only [vm, vr, vp, q14, Int.reduceLE, reduceIte, Nat.reduceEqDiff, Nat.reduceAdd, Nat.reduceLeDiff, Nat.reduceMul, reduceCtorEq]
         refine need_by (by first | assumption | omega | (simp; done) | (simp; omega)) ?_
         refine need_by (by first | assumption | omega | (simp; done) | (simp; omega)) ?_
         (refine hK _ ?_; clear hK K)
         refine c_reg1 fun K hK => ?_
         simp only [vm, vr, q14, gl, reduceIte, Nat.reduceEqDiff, Nat.reduceLeDiff, reduceCtorEq]
         (refine hK _ ?_; clear hK K)
         simp only [thenV_n, blockV_n]
         refine c_reg1 fun K hK => ?_
         simp only [vm, vr, reduceIte, Nat.reduceEqDiff]
         (simp (disch := omega) only [wr64]; try simp only [vm, vr, vt, vp, q14, marV, gl, hb1, hb2, hb3, hb4, hb5, reduceIte, Nat.reduceEqDiff, Nat.reduceAdd, Nat.reduceLeDiff, Nat.reduceMul, Nat.reduceLT, reduceCtorEq])
         (refine hK _ ?_; clear hK K)
         simp only [thenV_n]
         rotate_left
         cases hb5
         refine ⟨(1, true), ?_, ⟨by simp only; omega, by simp only; omega, (by show true = (keepV r s m i && !lowQ ((marS (oneR r m) s i).take (0 + 1))); rw [ge false (decide_eq_false (by omega))]; rfl)⟩, by simp only; omega⟩
         ((show Wk _ _ _; simp only [vm, vmk, reduceIte, Nat.reduceEqDiff, Nat.reduceAdd, Nat.reduceLT, reduceCtorEq]; (try simp (disch := omega) only [wr64]); try omega))
      ·
       have gs := low_take (M := marS (oneR r m) s i) (j := 1) (by rw [marS_len]; omega)
       have gc' : c = (keepV r s m i && !lowQ ((marS (oneR r m) s i).take 1)) := gc
       have ge : ∀ d, decide (((marS (oneR r m) s i).getD 1 default).1 < 0) = d → (keepV r s m i && !lowQ ((marS (oneR r m) s i).take (1 + 1))) = (c && !d) := fun d hd => by rw [gs, hd, gc']; cases keepV r s m i <;> cases lowQ ((marS (oneR r m) s i).take 1) <;> cases d <;> rfl
       cases c with
       | false =>
        refine c_reg fun K hK => ?_
        simp only [vm, vr, marV, Int.reduceLT, decide_true, reduceIte, Nat.reduceEqDiff]
        (refine hK _ ?_; clear hK K)
        refine c_if _ rfl (fun hb5 => ?_) (fun hb5 => ?_) <;> (have hp5 := hb5; try simp only [] at hp5)
        refine c_skip ?_
        refine c_block ?_
        refine c_reg fun K hK => ?_
        simp only [vm, vr, q14, Int.reduceLE, reduceIte, Nat.reduceEqDiff, Nat.reduceAdd, Nat.reduceLeDiff, Nat.reduceMul, reduceCtorEq]
        refine need_by (by first | assumption | omega | (simp; done) | (simp; omega)) ?_
        refine need_by (by first | assumption | omega | (simp; done) | (simp; omega)) ?_
        (refine hK _ ?_; clear hK K)
        refine c_reg1 fun K hK => ?_
        simp only [vm, vr, reduceIte, Nat.reduceEqDiff]
        (refine hK _ ?_; clear hK K)
        simp only [thenV_n, blockV_n]
        refine c_reg1 fun K hK => ?_
        simp only [vm, vr, reduceIte, Nat.reduceEqDiff]
        (simp (disch := omega) only [wr64]; try simp only [vm, vr, vt, vp, q14, marV, hb1, hb2, hb3, hb4, hb5, reduceIte, Nat.reduceEqDiff, Nat.reduceAdd, Nat.reduceLeDiff, Nat.reduceMul, Nat.reduceLT, reduceCtorEq])
        (refine hK _ ?_; clear hK K)
        simp only [thenV_n]
        rotate_left
        cases hb5
        refine ⟨(2, false), ?_, ⟨by simp only; omega, by simp only; omega, (by show false = (keepV r s m i && !lowQ ((marS (oneR r m) s i).take (1 + 1))); rw [ge _ rfl]; rfl)⟩, by simp only; omega⟩
        ((show Wk _ _ _; simp only [vm, vmk, reduceIte, Nat.reduceEqDiff, Nat.reduceAdd, Nat.reduceLT, reduceCtorEq]; (try simp (disch := omega) only [wr64]); try omega))
       | true =>
        cases gl : decide (((marS (oneR r m) s i).getD 1 default).1 ≥ 0) with
        | false =>
         have gl' := of_decide_eq_false gl
         refine c_reg fun K hK => ?_
         simp only [vm, vr, marV, Int.reduceLT, decide_true, reduceIte, Nat.reduceEqDiff]
         (refine hK _ ?_; clear hK K)
         refine c_if _ rfl (fun hb5 => ?_) (fun hb5 => ?_) <;> (have hp5 := hb5; try simp only [] at hp5)
         refine c_skip ?_
         refine c_block ?_
         refine c_reg fun K hK => ?_
         simp only [vm, vr, q14, Int.reduceLE, reduceIte, Nat.reduceEqDiff, Nat.reduceAdd, Nat.reduceLeDiff, Nat.reduceMul, reduceCtorEq]
         refine need_by (by first | assumption | omega | (simp; done) | (simp; omega)) ?_
         refine need_by (by first | assumption | omega | (simp; done) | (simp; omega)) ?_
         (refine hK _ ?_; clear hK K)
         refine c_reg1 fun K hK => ?_
         simp only [vm, vr, q14, gl, reduceIte, Nat.reduceEqDiff, Nat.reduceLeDiff, reduceCtorEq]
         (refine hK _ ?_; clear hK K)
         simp only [thenV_n, blockV_n]
         refine c_reg1 fun K hK => ?_
         simp only [vm, vr, reduceIte, Nat.reduceEqDiff]
         (simp (disch := omega) only [wr64]; try simp only [vm, vr, vt, vp, q14, marV, gl, hb1, hb2, hb3, hb4, hb5, reduceIte, Nat.reduceEqDiff, Nat.reduceAdd, Nat.reduceLeDiff, Nat.reduceMul, Nat.reduceLT, reduceCtorEq])
         (refine hK _ ?_; clear hK K)
         simp only [thenV_n]
         rotate_left
         cases hb5
         refine ⟨(2, false), ?_, ⟨by simp only; omega, by simp only; omega, (by show false = (keepV r s m i && !lowQ ((marS (oneR r m) s i).take (1 + 1))); rw [ge true (decide_eq_true (by omega))]; rfl)⟩, by simp only; omega⟩
         ((show Wk _ _ _; simp only [vm, vmk, reduceIte, Nat.reduceEqDiff, Nat.reduceAdd, Nat.reduceLT, reduceCtorEq]; (try simp (disch := omega) only [wr64]); try omega))
        | true =>
         have gl' := of_decide_eq_true gl
         refine c_reg fun K hK => ?_
         simp only [vm, vr, marV, Int.reduceLT, decide_true, reduceIte, Nat.reduceEqDiff]
         (refine hK _ ?_; clear hK K)
         refine c_if _ rfl (fun hb5 => ?_) (fun hb5 => ?_) <;> (have hp5 := hb5; try simp only [] at hp5)
         refine c_skip ?_
         refine c_block ?_
         refine c_reg fun K hK => ?_
         simp only [vm, vr, q14, Int.reduceLE, reduceIte, Nat.reduceEqDiff, Nat.reduceAdd, Nat.reduceLeDiff, Nat.reduceMul, reduceCtorEq]
         refine need_by (by first | assumption | omega | (simp; done) | (simp; omega)) ?_
         refine need_by (by first | assumption | omega | (simp; done) | (simp; omega)) ?_
         (refine hK _ ?_; clear hK K)
         refine c_reg1 fun K hK => ?_
         simp only [vm, vr, q14, gl, reduceIte, Nat.reduceEqDiff, Nat.reduceLeDiff, reduceCtorEq]
         (refine hK _ ?_; clear hK K)
         simp only [thenV_n, blockV_n]
         refine c_reg1 fun K hK => ?_
         simp only [vm, vr, reduceIte, Nat.reduceEqDiff]
         (simp (disch := omega) only [wr64]; try simp only [vm, vr, vt, vp, q14, marV, gl, hb1, hb2, hb3, hb4, hb5, reduceIte, Nat.reduceEqDiff, Nat.reduceAdd, Nat.reduceLeDiff, Nat.reduceMul, Nat.reduceLT, reduceCtorEq])
         (refine hK _ ?_; clear hK K)
         simp only [thenV_n]
         rotate_left
         cases hb5
         refine ⟨(2, true), ?_, ⟨by simp only; omega, by simp only; omega, (by show true = (keepV r s m i && !lowQ ((marS (oneR r m) s i).take (1 + 1))); rw [ge false (decide_eq_false (by omega))]; rfl)⟩, by simp only; omega⟩
         ((show Wk _ _ _; simp only [vm, vmk, reduceIte, Nat.reduceEqDiff, Nat.reduceAdd, Nat.reduceLT, reduceCtorEq]; (try simp (disch := omega) only [wr64]); try omega))
      ·
       have gs := low_take (M := marS (oneR r m) s i) (j := 2) (by rw [marS_len]; omega)
       have gc' : c = (keepV r s m i && !lowQ ((marS (oneR r m) s i).take 2)) := gc
       have ge : ∀ d, decide (((marS (oneR r m) s i).getD 2 default).1 < 0) = d → (keepV r s m i && !lowQ ((marS (oneR r m) s i).take (2 + 1))) = (c && !d) := fun d hd => by rw [gs, hd, gc']; cases keepV r s m i <;> cases lowQ ((marS (oneR r m) s i).take 2) <;> cases d <;> rfl
       cases c with
       | false =>
        refine c_reg fun K hK => ?_
        simp only [vm, vr, marV, Int.reduceLT, decide_true, reduceIte, Nat.reduceEqDiff]
        (refine hK _ ?_; clear hK K)
        refine c_if _ rfl (fun hb5 => ?_) (fun hb5 => ?_) <;> (have hp5 := hb5; try simp only [] at hp5)
        refine c_skip ?_
        refine c_block ?_
        refine c_reg fun K hK => ?_
        simp only [vm, vr, q14, Int.reduceLE, reduceIte, Nat.reduceEqDiff, Nat.reduceAdd, Nat.reduceLeDiff, Nat.reduceMul, reduceCtorEq]
        refine need_by (by first | assumption | omega | (simp; done) | (simp; omega)) ?_
        refine need_by (by first | assumption | omega | (simp; done) | (simp; omega)) ?_
        (refine hK _ ?_; clear hK K)
        refine c_reg1 fun K hK => ?_
        simp only [vm, vr, reduceIte, Nat.reduceEqDiff]
        (refine hK _ ?_; clear hK K)
        simp only [thenV_n, blockV_n]
        refine c_reg1 fun K hK => ?_
        simp only [vm, vr, reduceIte, Nat.reduceEqDiff]
        (simp (disch := omega) only [wr64]; try simp only [vm, vr, vt, vp, q14, marV, hb1, hb2, hb3, hb4, hb5, reduceIte, Nat.reduceEqDiff, Nat.reduceAdd, Nat.reduceLeDiff, Nat.reduceMul, Nat.reduceLT, reduceCtorEq])
        (refine hK _ ?_; clear hK K)
        simp only [thenV_n]
        rotate_left
        cases hb5
        refine ⟨(3, false), ?_, ⟨by simp only; omega, by simp only; omega, (by show false = (keepV r s m i && !lowQ ((marS (oneR r m) s i).take (2 + 1))); rw [ge _ rfl]; rfl)⟩, by simp only; omega⟩
        ((show Wk _ _ _; simp only [vm, vmk, reduceIte, Nat.reduceEqDiff, Nat.reduceAdd, Nat.reduceLT, reduceCtorEq]; (try simp (disch := omega) only [wr64]); try omega))
       | true =>
        cases gl : decide (((marS (oneR r m) s i).getD 2 default).1 ≥ 0) with
        | false =>
         have gl' := of_decide_eq_false gl
         refine c_reg fun K hK => ?_
         simp only [vm, vr, marV, Int.reduceLT, decide_true, reduceIte, Nat.reduceEqDiff]
         (refine hK _ ?_; clear hK K)
         refine c_if _ rfl (fun hb5 => ?_) (fun hb5 => ?_) <;> (have hp5 := hb5; try simp only [] at hp5)
         refine c_skip ?_
         refine c_block ?_
         refine c_reg fun K hK => ?_
         simp only [vm, vr, q14, Int.reduceLE, reduceIte, Nat.reduceEqDiff, Nat.reduceAdd, Nat.reduceLeDiff, Nat.reduceMul, reduceCtorEq]
         refine need_by (by first | assumption | omega | (simp; done) | (simp; omega)) ?_
         refine need_by (by first | assumption | omega | (simp; done) | (simp; omega)) ?_
         (refine hK _ ?_; clear hK K)
         refine c_reg1 fun K hK => ?_
         simp only [vm, vr, q14, gl, reduceIte, Nat.reduceEqDiff, Nat.reduceLeDiff, reduceCtorEq]
         (refine hK _ ?_; clear hK K)
         simp only [thenV_n, blockV_n]
         refine c_reg1 fun K hK => ?_
         simp only [vm, vr, reduceIte, Nat.reduceEqDiff]
         (simp (disch := omega) only [wr64]; try simp only [vm, vr, vt, vp, q14, marV, gl, hb1, hb2, hb3, hb4, hb5, reduceIte, Nat.reduceEqDiff, Nat.reduceAdd, Nat.reduceLeDiff, Nat.reduceMul, Nat.reduceLT, reduceCtorEq])
         (refine hK _ ?_; clear hK K)
         simp only [thenV_n]
         rotate_left
         cases hb5
         refine ⟨(3, false), ?_, ⟨by simp only; omega, by simp only; omega, (by show false = (keepV r s m i && !lowQ ((marS (oneR r m) s i).take (2 + 1))); rw [ge true (decide_eq_true (by omega))]; rfl)⟩, by simp only; omega⟩
         ((show Wk _ _ _; simp only [vm, vmk, reduceIte, Nat.reduceEqDiff, Nat.reduceAdd, Nat.reduceLT, reduceCtorEq]; (try simp (disch := omega) only [wr64]); try omega))
        | true =>
         have gl' := of_decide_eq_true gl
         refine c_reg fun K hK => ?_
         simp only [vm, vr, marV, Int.reduceLT, decide_true, reduceIte, Nat.reduceEqDiff]
         (refine hK _ ?_; clear hK K)
         refine c_if _ rfl (fun hb5 => ?_) (fun hb5 => ?_) <;> (have hp5 := hb5; try simp only [] at hp5)
         refine c_skip ?_
         refine c_block ?_
         refine c_reg fun K hK => ?_
         simp only [vm, vr, q14, Int.reduceLE, reduceIte, Nat.reduceEqDiff, Nat.reduceAdd, Nat.reduceLeDiff, Nat.reduceMul, reduceCtorEq]
         refine need_by (by first | assumption | omega | (simp; done) | (simp; omega)) ?_
         refine need_by (by first | assumption | omega | (simp; done) | (simp; omega)) ?_
         (refine hK _ ?_; clear hK K)
         refine c_reg1 fun K hK => ?_
         simp only [vm, vr, q14, gl, reduceIte, Nat.reduceEqDiff, Nat.reduceLeDiff, reduceCtorEq]
         (refine hK _ ?_; clear hK K)
         simp only [thenV_n, blockV_n]
         refine c_reg1 fun K hK => ?_
         simp only [vm, vr, reduceIte, Nat.reduceEqDiff]
         (simp (disch := omega) only [wr64]; try simp only [vm, vr, vt, vp, q14, marV, gl, hb1, hb2, hb3, hb4, hb5, reduceIte, Nat.reduceEqDiff, Nat.reduceAdd, Nat.reduceLeDiff, Nat.reduceMul, Nat.reduceLT, reduceCtorEq])
         (refine hK _ ?_; clear hK K)
         simp only [thenV_n]
         rotate_left
         cases hb5
         refine ⟨(3, true), ?_, ⟨by simp only; omega, by simp only; omega, (by show true = (keepV r s m i && !lowQ ((marS (oneR r m) s i).take (2 + 1))); rw [ge false (decide_eq_false (by omega))]; rfl)⟩, by simp only; omega⟩
         ((show Wk _ _ _; simp only [vm, vmk, reduceIte, Nat.reduceEqDiff, Nat.reduceAdd, Nat.reduceLT, reduceCtorEq]; (try simp (disch := omega) only [wr64]); try omega))
      ·
       have gs := low_take (M := marS (oneR r m) s i) (j := 3) (by rw [marS_len]; omega)
       have gc' : c = (keepV r s m i && !lowQ ((marS (oneR r m) s i).take 3)) := gc
       have ge : ∀ d, decide (((marS (oneR r m) s i).getD 3 default).1 < 0) = d → (keepV r s m i && !lowQ ((marS (oneR r m) s i).take (3 + 1))) = (c && !d) := fun d hd => by rw [gs, hd, gc']; cases keepV r s m i <;> cases lowQ ((marS (oneR r m) s i).take 3) <;> cases d <;> rfl
       cases c with
       | false =>
        refine c_reg fun K hK => ?_
        simp only [vm, vr, marV, Int.reduceLT, decide_true, reduceIte, Nat.reduceEqDiff]
        (refine hK _ ?_; clear hK K)
        refine c_if _ rfl (fun hb5 => ?_) (fun hb5 => ?_) <;> (have hp5 := hb5; try simp only [] at hp5)
        refine c_skip ?_
        refine c_block ?_
        refine c_reg fun K hK => ?_
        simp only [vm, vr, q14, Int.reduceLE, reduceIte, Nat.reduceEqDiff, Nat.reduceAdd, Nat.reduceLeDiff, Nat.reduceMul, reduceCtorEq]
        refine need_by (by first | assumption | omega | (simp; done) | (simp; omega)) ?_
        refine need_by (by first | assumption | omega | (simp; done) | (simp; omega)) ?_
        (refine hK _ ?_; clear hK K)
        refine c_reg1 fun K hK => ?_
        simp only [vm, vr, reduceIte, Nat.reduceEqDiff]
        (refine hK _ ?_; clear hK K)
        simp only [thenV_n, blockV_n]
        refine c_reg1 fun K hK => ?_
        simp only [vm, vr, reduceIte, Nat.reduceEqDiff]
        (simp (disch := omega) only [wr64]; try simp only [vm, vr, vt, vp, q14, marV, hb1, hb2, hb3, hb4, hb5, reduceIte, Nat.reduceEqDiff, Nat.reduceAdd, Nat.reduceLeDiff, Nat.reduceMul, Nat.reduceLT, reduceCtorEq])
        (refine hK _ ?_; clear hK K)
        simp only [thenV_n]
        rotate_left
        cases hb5
        refine ⟨(4, false), ?_, ⟨by simp only; omega, by simp only; omega, (by show false = (keepV r s m i && !lowQ ((marS (oneR r m) s i).take (3 + 1))); rw [ge _ rfl]; rfl)⟩, by simp only; omega⟩
        ((show Wk _ _ _; simp only [vm, vmk, reduceIte, Nat.reduceEqDiff, Nat.reduceAdd, Nat.reduceLT, reduceCtorEq]; (try simp (disch := omega) only [wr64]); try omega))
       | true =>
        cases gl : decide (((marS (oneR r m) s i).getD 3 default).1 ≥ 0) with
        | false =>
         have gl' := of_decide_eq_false gl
         refine c_reg fun K hK => ?_
         simp only [vm, vr, marV, Int.reduceLT, decide_true, reduceIte, Nat.reduceEqDiff]
         (refine hK _ ?_; clear hK K)
         refine c_if _ rfl (fun hb5 => ?_) (fun hb5 => ?_) <;> (have hp5 := hb5; try simp only [] at hp5)
         refine c_skip ?_
         refine c_block ?_
         refine c_reg fun K hK => ?_
         simp only [vm, vr, q14, Int.reduceLE, reduceIte, Nat.reduceEqDiff, Nat.reduceAdd, Nat.reduceLeDiff, Nat.reduceMul, reduceCtorEq]
         refine need_by (by first | assumption | omega | (simp; done) | (simp; omega)) ?_
         refine need_by (by first | assumption | omega | (simp; done) | (simp; omega)) ?_
         (refine hK _ ?_; clear hK K)
         refine c_reg1 fun K hK => ?_
         simp only [vm, vr, q14, gl, reduceIte, Nat.reduceEqDiff, Nat.reduceLeDiff, reduceCtorEq]
         (refine hK _ ?_; clear hK K)
         simp only [thenV_n, blockV_n]
         refine c_reg1 fun K hK => ?_
         simp only [vm, vr, reduceIte, Nat.reduceEqDiff]
         (simp (disch := omega) only [wr64]; try simp only [vm, vr, vt, vp, q14, marV, gl, hb1, hb2, hb3, hb4, hb5, reduceIte, Nat.reduceEqDiff, Nat.reduceAdd, Nat.reduceLeDiff, Nat.reduceMul, Nat.reduceLT, reduceCtorEq])
         (refine hK _ ?_; clear hK K)
         simp only [thenV_n]
         rotate_left
         cases hb5
         refine ⟨(4, false), ?_, ⟨by simp only; omega, by simp only; omega, (by show false = (keepV r s m i && !lowQ ((marS (oneR r m) s i).take (3 + 1))); rw [ge true (decide_eq_true (by omega))]; rfl)⟩, by simp only; omega⟩
         ((show Wk _ _ _; simp only [vm, vmk, reduceIte, Nat.reduceEqDiff, Nat.reduceAdd, Nat.reduceLT, reduceCtorEq]; (try simp (disch := omega) only [wr64]); try omega))
        | true =>
         have gl' := of_decide_eq_true gl
         refine c_reg fun K hK => ?_
         simp only [vm, vr, marV, Int.reduceLT, decide_true, reduceIte, Nat.reduceEqDiff]
         (refine hK _ ?_; clear hK K)
         refine c_if _ rfl (fun hb5 => ?_) (fun hb5 => ?_) <;> (have hp5 := hb5; try simp only [] at hp5)
         refine c_skip ?_
         refine c_block ?_
         refine c_reg fun K hK => ?_
         simp only [vm, vr, q14, Int.reduceLE, reduceIte, Nat.reduceEqDiff, Nat.reduceAdd, Nat.reduceLeDiff, Nat.reduceMul, reduceCtorEq]
         refine need_by (by first | assumption | omega | (simp; done) | (simp; omega)) ?_
         refine need_by (by first | assumption | omega | (simp; done) | (simp; omega)) ?_
         (refine hK _ ?_; clear hK K)
         refine c_reg1 fun K hK => ?_
         simp only [vm, vr, q14, gl, reduceIte, Nat.reduceEqDiff, Nat.reduceLeDiff, reduceCtorEq]
         (refine hK _ ?_; clear hK K)
         simp only [thenV_n, blockV_n]
         refine c_reg1 fun K hK => ?_
         simp only [vm, vr, reduceIte, Nat.reduceEqDiff]
         (simp (disch := omega) only [wr64]; try simp only [vm, vr, vt, vp, q14, marV, gl, hb1, hb2, hb3, hb4, hb5, reduceIte, Nat.reduceEqDiff, Nat.reduceAdd, Nat.reduceLeDiff, Nat.reduceMul, Nat.reduceLT, reduceCtorEq])
         (refine hK _ ?_; clear hK K)
         simp only [thenV_n]
         rotate_left
         cases hb5
         refine ⟨(4, true), ?_, ⟨by simp only; omega, by simp only; omega, (by show true = (keepV r s m i && !lowQ ((marS (oneR r m) s i).take (3 + 1))); rw [ge false (decide_eq_false (by omega))]; rfl)⟩, by simp only; omega⟩
         ((show Wk _ _ _; simp only [vm, vmk, reduceIte, Nat.reduceEqDiff, Nat.reduceAdd, Nat.reduceLT, reduceCtorEq]; (try simp (disch := omega) only [wr64]); try omega))
      ·
       refine c_reg fun K hK => ?_
       simp only [vm, vr, Int.reduceLT, decide_false, reduceIte, Nat.reduceEqDiff]
       (refine hK _ ?_; clear hK K)
       refine c_if _ rfl (fun hb5 => ?_) (fun hb5 => ?_) <;> (have hp5 := hb5; try simp only [] at hp5)
       cases hb5
       refine c_exit ?_
       simp only [thenV_n, thenV_e, blockV_n, blockV_e, reduceIte, Nat.reduceEqDiff]
       refine c_reg1 fun K hK => ?_
       simp only [vm, vr, reduceIte, Nat.reduceEqDiff]
       (simp (disch := omega) only [wr64]; try simp only [vm, vr, vt, vp, q14, hb1, hb2, hb3, hb4, hb5, reduceIte, Nat.reduceEqDiff, Nat.reduceAdd, Nat.reduceLeDiff, Nat.reduceMul, Nat.reduceLT, reduceCtorEq])
       (refine hK _ ?_; clear hK K)
       simp only [thenV_n]
       have gc' : c = (keepV r s m i && keepK r s m i) := gc
       rw [← keepV_succ] at gc'
       refine ⟨(i + 1, c), ?_, ⟨by simp only; omega, gc'⟩, by simp only; omega⟩
       ((show Wk _ _ _; simp only [vm, vmk, reduceIte, Nat.reduceEqDiff, Nat.reduceAdd, Nat.reduceLT, reduceCtorEq]; (try simp (disch := omega) only [wr64]); try omega)) <;> omega
    ·
     have kl : decide ((i : Int) < ((drs r s s.ths.length).length : Int)) = false := decide_eq_false_iff_not.2 (by omega)
     have hie : i = s.ths.length := by omega
     subst hie
     have hs70 := spec70g (drs r s s.ths.length) 71 [] [.ref [nn r.width, nn r.start, nn r.finish, nn m.heat, nn m.heat, nn r.cold, .sl ((stN r.stands m.losses r.stands.length).map stdV), nn m.stress, nn m.stress, nn m.friction, nn m.friction, .sl ((LS (oneR r m)).map p2)]] (rolF r m) (by rw [drs_len]; exact hs) fun k hk => by
      rw [drs_len] at hk
      rw [drs_at hk]
      have hd := dr_ok hr hS hk
      exact spec71 (oneR r m) (LS (oneR r m)) k (befV r s k) (s.ths.getD k 0) h1 (by unfold LS; rw [lossL_len, one_len']; omega) (los_ok h1) hd.a (th_start hS hk)
     refine c_reg fun K hK => ?_
     simp only [vm, vr, kl, reduceIte, Nat.reduceEqDiff]
     (refine hK _ ?_; clear hK K)
     refine c_if _ rfl (fun hb4 => ?_) (fun hb4 => ?_) <;> (have hp4 := hb4; try simp only [] at hp4)
     cases hb4
     refine c_exit ?_
     simp only [thenV_n, thenV_e, blockV_e, reduceIte]
     refine c_reg fun K hK => ?_
     simp only [vm, vr, reduceIte, Nat.reduceEqDiff, Nat.reduceAdd, reduceCtorEq]
     (apply s_call (hs70); (case hf => rfl); (case hq => (simp only [vm, reduceIte, Nat.reduceEqDiff, reduceCtorEq]; rfl)); (case hvs => rfl))
     simp only [vm, vr, reduceIte, Nat.reduceEqDiff]
     (refine hK _ ?_; clear hK K)
     refine c_ret1 ?_
     simp only [vm, vr, reduceIte, Nat.reduceEqDiff]
     rw [rol_eq (by omega), gb]
end Go.Vm
