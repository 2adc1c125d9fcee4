import Derived.Test.YtbbcjhodcgakcaaDoorVmBC
import Derived.Test.YtbbcjhodcgakcaaDoorWpL
import Derived.Test.YtbbcjhodcgakcaaDoorWpUz
set_option linter.all false
namespace Go.Vm
open Go.Proofs
open Nat renaming reduceEqDiff → rE, reduceAdd → rA, reduceLeDiff → rL, reduceLT → rT, reduceMul → rM
set_option maxRecDepth 20000
set_option maxHeartbeats 8000000
--DEF MIL = nn r.width; nn r.start; nn r.finish; nn r.hlo; nn r.hhi; nn r.cold; V.sl (r.stands.map stdV); nn r.slo; nn r.shi; nn r.flo; nn r.fhi; L.arr 17 0
--DEF LOS = (Key.a 17, M.arr 0 23 2 ((LS r).map p2)), (Key.f 17, M.frz)
theorem spec19w2 (r : PRules) (s : PSched) (hl : r.stands.length < 1000000) (hn : s.name.size < 1000000) (hs : s.ths.length < 1000000) (hE : (bothE r s).2 = 0) (hr : RulOk r) (hS : SchOk r s) : Sp0 19 [rulV r, schV s] (R.v2 (nn (ansV (margs r s s.ths.length))) (nn 0)) := by
 refine spec_of mixed (fun _ _ _ h => h) Tryd.func19 (by decide +kernel) rfl (rs := _) rfl (by rfl) rfl (by simp [Tryd.f19]) (by decide +kernel) ?_; simp only [argsG, Nat.zero_add]
 refine c_reg fun K hK => ?_
 simp only [vx, reduceIte, rE, rA, reduceCtorEq]
 refine nb ?_
 refine nb ?_
 apply hK; clear hK K
 refine c_reg fun K hK => ?_
 simp only [vx, q19, reduceIte, rE, rA, rL, reduceCtorEq]
 (apply s_callx (spec47w2 _ _ ?ya ?yb ?yc ?yd ?ye ?yf); (case hf => rfl); (case hq => (simp only [vm, reduceIte, rE, reduceCtorEq]; rfl)); (case hvs => rfl); (case hL => (simp only [vm, R.toL, R1.toL, rcsToL, RC.toL, r1sToL, siteN, reduceIte, rA, rM, reduceCtorEq]; rfl)); (case hfr => (simp only [vx, reduceIte, rE, reduceCtorEq]; try rfl)); (case ya | yb | yc | yd | ye | yf => first | assumption | omega | (simp <;> omega)))
 simp only [vx, vp, q19, reduceIte, rE, rA, rL, reduceCtorEq]
 refine nb ?_
 apply hK; clear hK K
 refine c_assoc ?_
 refine c_reg fun K hK => ?_
 simp only [vx, bne_self_eq_false, reduceIte, rE, reduceCtorEq]
 apply hK; clear hK K
 refine c_if _ rfl (fun hb1 => ?_) (fun hb1 => ?_)
 cases hb1
 refine c_skip ?_
 refine c_reg fun K hK => ?_
 simp only [vx]
 apply hK; clear hK K
 refine c_assoc ?_
 refine c_reg fun K hK => ?_
 simp only [vx, q19, reduceIte, rE, reduceCtorEq]
 apply hK; clear hK K
 refine c_block ?_
 refine vcode_loop (fun x : Nat × Int => [(4, L.p (nn 0)), (5, L.p (nn 0)), (6, L.own 6 0), (9, L.p (nn x.2)), (24, L.arr 1137 0), (25, L.p (V.i IntKind.i64 ↑(drs r s s.ths.length).length)), (26, L.p (nn x.1))]) (fun _ => [(Key.b 6, M.box 12), (Key.c 6 0, M.cell (L.p (nn r.width))), (Key.c 6 1, M.cell (L.p (nn r.start))), (Key.c 6 2, M.cell (L.p (nn r.finish))), (Key.c 6 3, M.cell (L.p (nn r.hlo))), (Key.c 6 4, M.cell (L.p (nn r.hhi))), (Key.c 6 5, M.cell (L.p (nn r.cold))), (Key.c 6 6, M.cell (L.p (V.sl (r.stands.map stdV)))), (Key.c 6 7, M.cell (L.p (nn r.slo))), (Key.c 6 8, M.cell (L.p (nn r.shi))), (Key.c 6 9, M.cell (L.p (nn r.flo))), (Key.c 6 10, M.cell (L.p (nn r.fhi))), (Key.c 6 11, M.cell (L.arr 17 0)), (Key.a 1137, M.arr 0 99 3 ((drs r s s.ths.length).map d3)), (Key.a 17, M.arr 0 23 2 ((LS r).map p2)), (Key.f 17, M.frz)]) (fun x => x.1 ≤ s.ths.length ∧ noHi (margs r s x.1) ∧ x.2 = ansP (margs r s x.1)) (fun x => s.ths.length - x.1) (0, 2) ⟨Nat.zero_le _, noHi_nil, rfl⟩ ?_ ?_
 ·
  simp only [vm, vmk, reduceIte, rE, rA, rT, reduceCtorEq]
 ·
  rintro ⟨i, a⟩ ⟨hi, hq, ha⟩
  simp only at hi hq ha ⊢
  have hdl : (drs r s s.ths.length).length = s.ths.length := drs_len
  have hsl := hS.len
  rcases Nat.lt_or_ge i s.ths.length with hil | hil
  ·
   have kl : decide ((i : Int) < ((drs r s s.ths.length).length : Int)) = true := decide_eq_true (by omega)
   have hda : (drs r s s.ths.length).getD i default = drV r s i := drs_at hil
   obtain ⟨_, _, m1, m2, m3, m4⟩ := mh_of hr hS hil
   have hs48 : Sp0 48 [milV r (LS r), .agg [nn i, nn (befV r s i), nn (s.ths.getD i 0)]] (R.v (marV (marS r s i))) := spec48 r (LS r) i _ _ hr (by omega) (by unfold LS; rw [lossL_len]; omega) (los_ok hr) m1 m2 m3 m4
   refine c_reg fun K hK => ?_
   simp only [vx, kl, reduceIte, rE]
   apply hK; clear hK K
   refine c_if _ rfl (fun hb2 => ?_) (fun hb2 => ?_)
   refine c_skip ?_
   refine c_block ?_
   refine c_reg fun K hK => ?_
   simp only [vx, q19, reduceIte, rE, rA, rL, reduceCtorEq]
   refine nb ?_
   (refine want_map default (by first | assumption | omega | (simp <;> omega)) ?_; simp only [vx, hda, drV, reduceIte, rA, rL])
   refine nb ?_
   apply hK; clear hK K
   refine c_reg fun K hK => ?_
   simp only [vx, vp, q19, reduceIte, rE, rA, rL, reduceCtorEq]
   (apply s_call (hs48); (case hf => rfl); (case hq => (simp only [vx, reduceIte, rE, reduceCtorEq]; rfl)); (case hvs => rfl))
   simp only [vx]
   apply hK; clear hK K
   refine c_block1 ?_
   rotate_left
   cases hb2
   refine vcode_loop (fun x : Int × Int => [(4, L.p (nn 0)), (5, L.p (nn 0)), (6, L.own 6 0), (9, L.p (nn x.2)), (24, L.arr 1137 0), (25, L.p (V.i IntKind.i64 ↑(drs r s s.ths.length).length)), (26, L.p (nn i)), (32, L.p (marV (marS r s i))), (33, L.p (nn x.1))]) (fun _ => [(Key.b 6, M.box 12), (Key.c 6 0, M.cell (L.p (nn r.width))), (Key.c 6 1, M.cell (L.p (nn r.start))), (Key.c 6 2, M.cell (L.p (nn r.finish))), (Key.c 6 3, M.cell (L.p (nn r.hlo))), (Key.c 6 4, M.cell (L.p (nn r.hhi))), (Key.c 6 5, M.cell (L.p (nn r.cold))), (Key.c 6 6, M.cell (L.p (V.sl (r.stands.map stdV)))), (Key.c 6 7, M.cell (L.p (nn r.slo))), (Key.c 6 8, M.cell (L.p (nn r.shi))), (Key.c 6 9, M.cell (L.p (nn r.flo))), (Key.c 6 10, M.cell (L.p (nn r.fhi))), (Key.c 6 11, M.cell (L.arr 17 0)), (Key.a 1137, M.arr 0 99 3 ((drs r s s.ths.length).map d3)), (Key.a 17, M.arr 0 23 2 ((LS r).map p2)), (Key.f 17, M.frz)]) (fun x => 0 ≤ x.1 ∧ x.1 ≤ 4 ∧ noHi (seen r s i x.1.toNat) ∧ x.2 = ansP (seen r s i x.1.toNat)) (fun x => (4 - x.1).toNat) (0, a) ⟨Int.le_refl _, by simp only; omega, by show noHi (seen r s i 0); rw [seen_0]; exact hq, by show a = ansP (seen r s i 0); rw [seen_0]; exact ha⟩ ?_ ?_
   ·
    simp only [vm, vmk, reduceIte, rE, rA, rT, reduceCtorEq]
   ·
    rintro ⟨j, b⟩ ⟨h0, h4, gq, ga⟩
    simp only at h0 h4 gq ga ⊢
    obtain rfl | rfl | rfl | rfl | rfl : j = 0 ∨ j = 1 ∨ j = 2 ∨ j = 3 ∨ j = 4 := by omega
    ·
     have gs := seen_succ (r := r) (s := s) (i := i) (j := 0) (by omega)
     have gm := mem_margs (r := r) (s := s) hil (show 0 < 4 by omega)
     refine c_reg fun K hK => ?_
     simp only [vx, marV, Int.reduceLT, decide_true, reduceIte, rE]
     apply hK; clear hK K
     refine c_if _ rfl (fun hb3 => ?_) (fun hb3 => ?_)
     refine c_skip ?_
     refine c_block ?_
     refine c_reg fun K hK => ?_
     simp only [vx, vp, q19, Int.reduceLE, reduceIte, rE, rA, rL, rM, reduceCtorEq]
     refine nb ?_
     refine nb ?_
     apply hK; clear hK K
     refine c_block1 ?_
     refine c_reg fun K hK => ?_
     simp only [vx, q19, reduceIte, rE, rA, rL, reduceCtorEq]
     apply hK; clear hK K
     refine vcode_if _ rfl (fun hb4 => ?_) (fun hb4 => ?_) <;> (have hp4 := hb4; try simp only [decide_eq_true_eq, decide_eq_false_iff_not, Int.not_lt] at hp4)
     refine c_reg fun K hK => ?_
     simp only [vx, hb4]
     apply hK; clear hK K
     refine c_ret1 ?_
     simp only [thenV_r, blockV_r]
     simp only [vx, reduceIte, rE]
     rotate_left
     refine c_reg fun K hK => ?_
     simp only [vx, q19, hb4, reduceIte, rE, rL, reduceCtorEq]
     apply hK; clear hK K
     refine vcode_if _ rfl (fun hb5 => ?_) (fun hb5 => ?_) <;> (have hp5 := hb5; try simp only [decide_eq_true_eq, decide_eq_false_iff_not, Int.not_lt] at hp5)
     refine c_reg1 fun K hK => ?_
     simp only [vx, hb5]
     apply hK; clear hK K
     simp only [thenV_n, blockV_n]
     refine c_reg1 fun K hK => ?_
     simp only [vx, reduceIte, rE]
     (simp (disch := omega) only [wr64]; try simp only [vx, vt, vp, q19, marV, hb1, hb2, hb3, hb4, hb5, Int.reduceBNe, Int.reduceBEq, Int.reduceLT, Int.reduceLE, Int.reduceGT, Int.reduceGE, decide_true, decide_false, bne_self_eq_false, beq_self_eq_true, reduceIte, rE, rA, rL, rM, rT, reduceCtorEq])
     apply hK; clear hK K
     simp only [thenV_n]
     rotate_left
     refine c_skip1 ?_
     simp only [thenV_n, blockV_n]
     refine c_reg1 fun K hK => ?_
     simp only [vx, hb5, reduceIte, rE]
     (simp (disch := omega) only [wr64]; try simp only [vx, vt, vp, q19, marV, hb1, hb2, hb3, hb4, hb5, Int.reduceBNe, Int.reduceBEq, Int.reduceLT, Int.reduceLE, Int.reduceGT, Int.reduceGE, decide_true, decide_false, bne_self_eq_false, beq_self_eq_true, reduceIte, rE, rA, rL, rM, rT, reduceCtorEq])
     apply hK; clear hK K
     simp only [thenV_n]
     rotate_left
     cases hb3
     all_goals first
      | (rw [ans_no gm (by assumption)]; done)
      | (refine ⟨(1, 1), ?_, ⟨by simp only; omega, by simp only; omega, ?_, ?_⟩, by simp only; omega⟩; ((show Wk _ _ _; simp only [vm, vmk, reduceIte, rE, rA, rT, reduceCtorEq]; (try simp (disch := omega) only [wr64]); try omega)); (show noHi (seen r s i 1); rw [gs]; exact noHi_snoc gq (by omega)); (show 1 = ansP (seen r s i 1); rw [gs, ansP_low (by assumption)]))
      | (refine ⟨(1, b), ?_, ⟨by simp only; omega, by simp only; omega, ?_, ?_⟩, by simp only; omega⟩; ((show Wk _ _ _; simp only [vm, vmk, reduceIte, rE, rA, rT, reduceCtorEq]; (try simp (disch := omega) only [wr64]); try omega)); (show noHi (seen r s i 1); rw [gs]; exact noHi_snoc gq (by omega)); (show b = ansP (seen r s i 1); rw [gs, ansP_high (by omega)]; exact ga))
    ·
     have gs := seen_succ (r := r) (s := s) (i := i) (j := 1) (by omega)
     have gm := mem_margs (r := r) (s := s) hil (show 1 < 4 by omega)
     refine c_reg fun K hK => ?_
     simp only [vx, marV, Int.reduceLT, decide_true, reduceIte, rE]
     apply hK; clear hK K
     refine c_if _ rfl (fun hb3 => ?_) (fun hb3 => ?_)
     refine c_skip ?_
     refine c_block ?_
     refine c_reg fun K hK => ?_
     simp only [vx, q19, Int.reduceLE, reduceIte, rE, rA, rL, rM, reduceCtorEq]
     refine nb ?_
     refine nb ?_
     apply hK; clear hK K
     refine c_block1 ?_
     refine c_reg fun K hK => ?_
     simp only [vx, q19, reduceIte, rE, rA, rL, reduceCtorEq]
     apply hK; clear hK K
     refine vcode_if _ rfl (fun hb4 => ?_) (fun hb4 => ?_) <;> (have hp4 := hb4; try simp only [decide_eq_true_eq, decide_eq_false_iff_not, Int.not_lt] at hp4)
     refine c_reg fun K hK => ?_
     simp only [vx, hb4]
     apply hK; clear hK K
     refine c_ret1 ?_
     simp only [thenV_r, blockV_r]
     simp only [vx, reduceIte, rE]
     rotate_left
     refine c_reg fun K hK => ?_
     simp only [vx, q19, hb4, reduceIte, rE, rL, reduceCtorEq]
     apply hK; clear hK K
     refine vcode_if _ rfl (fun hb5 => ?_) (fun hb5 => ?_) <;> (have hp5 := hb5; try simp only [decide_eq_true_eq, decide_eq_false_iff_not, Int.not_lt] at hp5)
     refine c_reg1 fun K hK => ?_
     simp only [vx, hb5]
     apply hK; clear hK K
     simp only [thenV_n, blockV_n]
     refine c_reg1 fun K hK => ?_
     simp only [vx, reduceIte, rE]
     (simp (disch := omega) only [wr64]; try simp only [vx, vt, vp, q19, marV, hb1, hb2, hb3, hb4, hb5, Int.reduceBNe, Int.reduceBEq, Int.reduceLT, Int.reduceLE, Int.reduceGT, Int.reduceGE, decide_true, decide_false, bne_self_eq_false, beq_self_eq_true, reduceIte, rE, rA, rL, rM, rT, reduceCtorEq])
     apply hK; clear hK K
     simp only [thenV_n]
     rotate_left
     refine c_skip1 ?_
     simp only [thenV_n, blockV_n]
     refine c_reg1 fun K hK => ?_
     simp only [vx, hb5, reduceIte, rE]
     (simp (disch := omega) only [wr64]; try simp only [vx, vt, vp, q19, marV, hb1, hb2, hb3, hb4, hb5, Int.reduceBNe, Int.reduceBEq, Int.reduceLT, Int.reduceLE, Int.reduceGT, Int.reduceGE, decide_true, decide_false, bne_self_eq_false, beq_self_eq_true, reduceIte, rE, rA, rL, rM, rT, reduceCtorEq])
     apply hK; clear hK K
     simp only [thenV_n]
     rotate_left
     cases hb3
     all_goals first
      | (rw [ans_no gm (by assumption)]; done)
      | (refine ⟨(2, 1), ?_, ⟨by simp only; omega, by simp only; omega, ?_, ?_⟩, by simp only; omega⟩; ((show Wk _ _ _; simp only [vm, vmk, reduceIte, rE, rA, rT, reduceCtorEq]; (try simp (disch := omega) only [wr64]); try omega)); (show noHi (seen r s i 2); rw [gs]; exact noHi_snoc gq (by omega)); (show 1 = ansP (seen r s i 2); rw [gs, ansP_low (by assumption)]))
      | (refine ⟨(2, b), ?_, ⟨by simp only; omega, by simp only; omega, ?_, ?_⟩, by simp only; omega⟩; ((show Wk _ _ _; simp only [vm, vmk, reduceIte, rE, rA, rT, reduceCtorEq]; (try simp (disch := omega) only [wr64]); try omega)); (show noHi (seen r s i 2); rw [gs]; exact noHi_snoc gq (by omega)); (show b = ansP (seen r s i 2); rw [gs, ansP_high (by omega)]; exact ga))
    ·
     have gs := seen_succ (r := r) (s := s) (i := i) (j := 2) (by omega)
     have gm := mem_margs (r := r) (s := s) hil (show 2 < 4 by omega)
     refine c_reg fun K hK => ?_
     simp only [vx, marV, Int.reduceLT, decide_true, reduceIte, rE]
     apply hK; clear hK K
     refine c_if _ rfl (fun hb3 => ?_) (fun hb3 => ?_)
     refine c_skip ?_
     refine c_block ?_
     refine c_reg fun K hK => ?_
     simp only [vx, q19, Int.reduceLE, reduceIte, rE, rA, rL, rM, reduceCtorEq]
     refine nb ?_
     refine nb ?_
     apply hK; clear hK K
     refine c_block1 ?_
     refine c_reg fun K hK => ?_
     simp only [vx, q19, reduceIte, rE, rA, rL, reduceCtorEq]
     apply hK; clear hK K
     refine vcode_if _ rfl (fun hb4 => ?_) (fun hb4 => ?_) <;> (have hp4 := hb4; try simp only [decide_eq_true_eq, decide_eq_false_iff_not, Int.not_lt] at hp4)
     refine c_reg fun K hK => ?_
     simp only [vx, hb4]
     apply hK; clear hK K
     refine c_ret1 ?_
     simp only [thenV_r, blockV_r]
     simp only [vx, reduceIte, rE]
     rotate_left
     refine c_reg fun K hK => ?_
     simp only [vx, q19, hb4, reduceIte, rE, rL, reduceCtorEq]
     apply hK; clear hK K
     refine vcode_if _ rfl (fun hb5 => ?_) (fun hb5 => ?_) <;> (have hp5 := hb5; try simp only [decide_eq_true_eq, decide_eq_false_iff_not, Int.not_lt] at hp5)
     refine c_reg1 fun K hK => ?_
     simp only [vx, hb5]
     apply hK; clear hK K
     simp only [thenV_n, blockV_n]
     refine c_reg1 fun K hK => ?_
     simp only [vx, reduceIte, rE]
     (simp (disch := omega) only [wr64]; try simp only [vx, vt, vp, q19, marV, hb1, hb2, hb3, hb4, hb5, Int.reduceBNe, Int.reduceBEq, Int.reduceLT, Int.reduceLE, Int.reduceGT, Int.reduceGE, decide_true, decide_false, bne_self_eq_false, beq_self_eq_true, reduceIte, rE, rA, rL, rM, rT, reduceCtorEq])
     apply hK; clear hK K
     simp only [thenV_n]
     rotate_left
     refine c_skip1 ?_
     simp only [thenV_n, blockV_n]
     refine c_reg1 fun K hK => ?_
     simp only [vx, hb5, reduceIte, rE]
     (simp (disch := omega) only [wr64]; try simp only [vx, vt, vp, q19, marV, hb1, hb2, hb3, hb4, hb5, Int.reduceBNe, Int.reduceBEq, Int.reduceLT, Int.reduceLE, Int.reduceGT, Int.reduceGE, decide_true, decide_false, bne_self_eq_false, beq_self_eq_true, reduceIte, rE, rA, rL, rM, rT, reduceCtorEq])
     apply hK; clear hK K
     simp only [thenV_n]
     rotate_left
     cases hb3
     all_goals first
      | (rw [ans_no gm (by assumption)]; done)
      | (refine ⟨(3, 1), ?_, ⟨by simp only; omega, by simp only; omega, ?_, ?_⟩, by simp only; omega⟩; ((show Wk _ _ _; simp only [vm, vmk, reduceIte, rE, rA, rT, reduceCtorEq]; (try simp (disch := omega) only [wr64]); try omega)); (show noHi (seen r s i 3); rw [gs]; exact noHi_snoc gq (by omega)); (show 1 = ansP (seen r s i 3); rw [gs, ansP_low (by assumption)]))
      | (refine ⟨(3, b), ?_, ⟨by simp only; omega, by simp only; omega, ?_, ?_⟩, by simp only; omega⟩; ((show Wk _ _ _; simp only [vm, vmk, reduceIte, rE, rA, rT, reduceCtorEq]; (try simp (disch := omega) only [wr64]); try omega)); (show noHi (seen r s i 3); rw [gs]; exact noHi_snoc gq (by omega)); (show b = ansP (seen r s i 3); rw [gs, ansP_high (by omega)]; exact ga))
    ·
     have gs := seen_succ (r := r) (s := s) (i := i) (j := 3) (by omega)
     have gm := mem_margs (r := r) (s := s) hil (show 3 < 4 by omega)
     refine c_reg fun K hK => ?_
     simp only [vx, marV, Int.reduceLT, decide_true, reduceIte, rE]
     apply hK; clear hK K
     refine c_if _ rfl (fun hb3 => ?_) (fun hb3 => ?_)
     refine c_skip ?_
     refine c_block ?_
     refine c_reg fun K hK => ?_
     simp only [vx, q19, Int.reduceLE, reduceIte, rE, rA, rL, rM, reduceCtorEq]
     refine nb ?_
     refine nb ?_
     apply hK; clear hK K
     refine c_block1 ?_
     refine c_reg fun K hK => ?_
     simp only [vx, q19, reduceIte, rE, rA, rL, reduceCtorEq]
     apply hK; clear hK K
     refine vcode_if _ rfl (fun hb4 => ?_) (fun hb4 => ?_) <;> (have hp4 := hb4; try simp only [decide_eq_true_eq, decide_eq_false_iff_not, Int.not_lt] at hp4)
     refine c_reg fun K hK => ?_
     simp only [vx, hb4]
     apply hK; clear hK K
     refine c_ret1 ?_
     simp only [thenV_r, blockV_r]
     simp only [vx, reduceIte, rE]
     rotate_left
     refine c_reg fun K hK => ?_
     simp only [vx, q19, hb4, reduceIte, rE, rL, reduceCtorEq]
     apply hK; clear hK K
     refine vcode_if _ rfl (fun hb5 => ?_) (fun hb5 => ?_) <;> (have hp5 := hb5; try simp only [decide_eq_true_eq, decide_eq_false_iff_not, Int.not_lt] at hp5)
     refine c_reg1 fun K hK => ?_
     simp only [vx, hb5]
     apply hK; clear hK K
     simp only [thenV_n, blockV_n]
     refine c_reg1 fun K hK => ?_
     simp only [vx, reduceIte, rE]
     (simp (disch := omega) only [wr64]; try simp only [vx, vt, vp, q19, marV, hb1, hb2, hb3, hb4, hb5, Int.reduceBNe, Int.reduceBEq, Int.reduceLT, Int.reduceLE, Int.reduceGT, Int.reduceGE, decide_true, decide_false, bne_self_eq_false, beq_self_eq_true, reduceIte, rE, rA, rL, rM, rT, reduceCtorEq])
     apply hK; clear hK K
     simp only [thenV_n]
     rotate_left
     refine c_skip1 ?_
     simp only [thenV_n, blockV_n]
     refine c_reg1 fun K hK => ?_
     simp only [vx, hb5, reduceIte, rE]
     (simp (disch := omega) only [wr64]; try simp only [vx, vt, vp, q19, marV, hb1, hb2, hb3, hb4, hb5, Int.reduceBNe, Int.reduceBEq, Int.reduceLT, Int.reduceLE, Int.reduceGT, Int.reduceGE, decide_true, decide_false, bne_self_eq_false, beq_self_eq_true, reduceIte, rE, rA, rL, rM, rT, reduceCtorEq])
     apply hK; clear hK K
     simp only [thenV_n]
     rotate_left
     cases hb3
     all_goals first
      | (rw [ans_no gm (by assumption)]; done)
      | (refine ⟨(4, 1), ?_, ⟨by simp only; omega, by simp only; omega, ?_, ?_⟩, by simp only; omega⟩; ((show Wk _ _ _; simp only [vm, vmk, reduceIte, rE, rA, rT, reduceCtorEq]; (try simp (disch := omega) only [wr64]); try omega)); (show noHi (seen r s i 4); rw [gs]; exact noHi_snoc gq (by omega)); (show 1 = ansP (seen r s i 4); rw [gs, ansP_low (by assumption)]))
      | (refine ⟨(4, b), ?_, ⟨by simp only; omega, by simp only; omega, ?_, ?_⟩, by simp only; omega⟩; ((show Wk _ _ _; simp only [vm, vmk, reduceIte, rE, rA, rT, reduceCtorEq]; (try simp (disch := omega) only [wr64]); try omega)); (show noHi (seen r s i 4); rw [gs]; exact noHi_snoc gq (by omega)); (show b = ansP (seen r s i 4); rw [gs, ansP_high (by omega)]; exact ga))
    ·
     refine c_reg fun K hK => ?_
     simp only [vx, Int.reduceLT, decide_false, reduceIte, rE]
     apply hK; clear hK K
     refine c_if _ rfl (fun hb3 => ?_) (fun hb3 => ?_)
     cases hb3
     refine c_exit ?_
     simp only [thenV_n, thenV_e, blockV_n, blockV_e, reduceIte, rE]
     refine c_reg1 fun K hK => ?_
     simp only [vx, reduceIte, rE]
     (simp (disch := omega) only [wr64]; try simp only [vx, vt, vp, q19, hb1, hb2, hb3, Int.reduceBNe, Int.reduceBEq, Int.reduceLT, Int.reduceLE, Int.reduceGT, Int.reduceGE, decide_true, decide_false, bne_self_eq_false, beq_self_eq_true, reduceIte, rE, rA, rL, rM, rT, reduceCtorEq])
     apply hK; clear hK K
     simp only [thenV_n]
     have gq' : noHi (seen r s i 4) := gq
     have ga' : b = ansP (seen r s i 4) := ga
     rw [seen_4] at gq' ga'
     refine ⟨(i + 1, b), ?_, ⟨by omega, gq', ga'⟩, by simp only; omega⟩
     ((show Wk _ _ _; simp only [vm, vmk, reduceIte, rE, rA, rT, reduceCtorEq]; (try simp (disch := omega) only [wr64]); try omega)) <;> omega
  ·
   have kl : decide ((i : Int) < ((drs r s s.ths.length).length : Int)) = false := decide_eq_false_iff_not.2 (by omega)
   have hie : i = s.ths.length := by omega
   subst hie
   refine c_reg fun K hK => ?_
   simp only [vx, kl, reduceIte, rE]
   apply hK; clear hK K
   refine c_if _ rfl (fun hb2 => ?_) (fun hb2 => ?_)
   cases hb2
   refine c_exit ?_
   simp only [thenV_n, thenV_e, blockV_e, reduceIte]
   refine c_reg fun K hK => ?_
   simp only [vx, reduceIte, rE]
   apply hK; clear hK K
   refine c_ret1 ?_
   simp only [vx, reduceIte, rE]
   rw [ans_end hq, ha]
end Go.Vm
