import Derived.Test.YtfgjngignahcdaaGreatDoorVmBC
import Derived.Test.YtfgjngignahcdaaGreatDoorWcG
set_option linter.all false
namespace Go.Vm
open Go.Proofs
set_option maxRecDepth 20000
set_option maxHeartbeats 8000000
def ssxE (t : CTab) (x : CStrip) (l : List Int) : Int := if ((l.length : Int) != (x.ents.length : Int)) = true then 10 else ssE t l
theorem spec35 (t : CTab) (x : CStrip) (l : List Int) (ht : TabOk t) (hl : l.length ≤ 1000) (hx : x.ents.length < 1000000) : Sp0 35 [ctV t, csV x, .sl (l.map nn)] (R.v (nn (ssxE t x l))) := by
 unfold ssxE
 cases c : ((l.length : Int) != (x.ents.length : Int)) with
 | true =>
  rw [if_pos rfl]
  refine spec_of mixed (fun _ _ _ h => h) Tryz.func35 (by decide +kernel) rfl (rs := _) rfl (by rfl) rfl (by simp [Tryz.f35]) (by decide +kernel) ?_; simp only [argsG, Nat.zero_add, Nat.reduceAdd]
  refine c_reg fun K hK => ?_
  simp only [vm, vr, reduceIte, Nat.reduceEqDiff, Nat.reduceAdd, reduceCtorEq]
  refine need_by (by first | assumption | omega | (simp; done) | (simp; omega)) ?_
  refine need_by (by first | assumption | omega | (simp; done) | (simp; omega)) ?_
  (refine hK _ ?_; clear hK K)
  refine c_assoc ?_
  refine c_reg fun K hK => ?_
  simp only [vm, vr, q35, c, reduceIte, Nat.reduceEqDiff, Nat.reduceLeDiff, reduceCtorEq]
  (refine hK _ ?_; clear hK K)
  refine c_if _ rfl (fun hb1 => ?_) (fun hb1 => ?_) <;> (have hp1 := hb1; try simp only [] at hp1)
  refine c_assoc ?_
  refine c_reg fun K hK => ?_
  simp only [vm, vr]
  (refine hK _ ?_; clear hK K)
  refine c_ret ?_
  simp only [vm, vr, reduceIte, Nat.reduceEqDiff, reduceCtorEq]
  cases hb1
 | false =>
  rw [if_neg (by decide)]
  refine spec_of mixed (fun _ _ _ h => h) Tryz.func35 (by decide +kernel) rfl (rs := _) rfl (by rfl) rfl (by simp [Tryz.f35]) (by decide +kernel) ?_; simp only [argsG, Nat.zero_add, Nat.reduceAdd]
  refine c_reg fun K hK => ?_
  simp only [vm, vr, reduceIte, Nat.reduceEqDiff, Nat.reduceAdd, reduceCtorEq]
  refine need_by (by first | assumption | omega | (simp; done) | (simp; omega)) ?_
  refine need_by (by first | assumption | omega | (simp; done) | (simp; omega)) ?_
  (refine hK _ ?_; clear hK K)
  refine c_assoc ?_
  refine c_reg fun K hK => ?_
  simp only [vm, vr, q35, c, reduceIte, Nat.reduceEqDiff, Nat.reduceLeDiff, reduceCtorEq]
  (refine hK _ ?_; clear hK K)
  refine c_if _ rfl (fun hb1 => ?_) (fun hb1 => ?_) <;> (have hp1 := hb1; try simp only [] at hp1)
  cases hb1
  refine c_skip ?_
  refine c_reg fun K hK => ?_
  simp only [vm, vr, q35, reduceIte, Nat.reduceEqDiff, Nat.reduceAdd, Nat.reduceLeDiff, reduceCtorEq]
  (apply s_call (spec17 _ _ ?s2201x1 ?s2201x2); (case hf => rfl); (case hq => (simp only [vm, reduceIte, Nat.reduceEqDiff, reduceCtorEq]; rfl)); (case hvs => rfl); (case s2201x1 | s2201x2 => first | assumption | omega | (simp; done) | (simp; omega)))
  simp only [vm, vr, reduceIte, Nat.reduceEqDiff, reduceCtorEq]
  (refine hK _ ?_; clear hK K)
  refine c_ret1 ?_
  simp only [vm, vr, reduceIte, Nat.reduceEqDiff, reduceCtorEq]
theorem spec37 (t : CTab) (x : CStrip) (l : List Int) (ht : TabOk t) (hx : StrOk x) (hl : l.length = x.ents.length) (hs : setsE t l = 0) : Sp0 37 [ctV t, csV x, .sl (l.map nn)] (R.v (.sl ((exL t x l l.length).map p2))) := by
 have hxl := hx.len
 have hsm := hx.same
 have htl := ht.len
 refine spec_of mixed (fun _ _ _ h => h) Tryz.func37 (by decide +kernel) rfl (rs := _) rfl (by rfl) rfl (by simp [Tryz.f37]) (by decide +kernel) ?_; simp only [argsG, Nat.zero_add, Nat.reduceAdd]
 refine c_reg fun K hK => ?_
 simp only [vm, vr, reduceIte, Nat.reduceEqDiff, Nat.reduceAdd, reduceCtorEq]
 refine need_by (by first | assumption | omega | (simp; done) | (simp; omega)) ?_
 refine need_by (by first | assumption | omega | (simp; done) | (simp; omega)) ?_
 (refine hK _ ?_; clear hK K)
 refine c_reg fun K hK => ?_
 simp only [vm, vr]
 (refine hK _ ?_; clear hK K)
 refine c_assoc ?_
 refine c_reg fun K hK => ?_
 simp only [vm, vr]
 (refine hK _ ?_; clear hK K)
 refine c_block ?_
 refine vcode_loop (fun i : Nat => [(2, L.p (V.sl (List.map nn l))), (3, L.own 3 0), (4, L.own 4 0), (6, L.nilS), (7, L.arr 60 0), (8, L.p (nn i))]) (fun i => [(Key.a 60, M.arr 0 63 2 ((exL t x l i).map p2)), (Key.b 4, M.box 2), (Key.c 4 0, M.cell (L.p (V.sl (x.ents.map p2)))), (Key.c 4 1, M.cell (L.p (V.sl (x.tars.map p2)))), (Key.b 3, M.box 3), (Key.c 3 0, M.cell (L.p (nn t.water))), (Key.c 3 1, M.cell (L.p (nn t.air))), (Key.c 3 2, M.cell (L.p (V.sl (t.banks.map bnkV))))]) (fun i => i ≤ l.length) (fun i => l.length - i) 0 (Nat.zero_le _) ?_ ?_
 ·
  (simp only [vm, vmk, reduceIte, Nat.reduceEqDiff, Nat.reduceAdd, Nat.reduceLT, reduceCtorEq]; try simp (disch := omega) only [wr64]; try omega)
  exact ⟨.inr trivial, by simp [exL]⟩
 ·
  intro i hi
  rcases Nat.lt_or_ge i l.length with hil | hil
  ·
   have kl : decide ((i : Int) < (l.length : Int)) = true := decide_eq_true (by omega)
   obtain ⟨s, es, s16, s2, hsb⟩ := sets_at ht hs hil
   have hs70 := spec70 t s (x.ents.getD i default) ht s16 (hx.ent i (by omega))
   have hsu : exL t x l (i + 1) = exL t x l i ++ [pasR t s (x.ents.getD i default)] := by rw [exL_succ, es, Int.toNat_natCast]
   have hel : (exL t x l i).length = i := by simp [exL]
   refine c_assoc ?_
   refine c_reg fun K hK => ?_
   simp only [vm, vr, q37, kl, reduceIte, Nat.reduceEqDiff]
   (refine hK _ ?_; clear hK K)
   refine c_if _ rfl (fun hb1 => ?_) (fun hb1 => ?_) <;> (have hp1 := hb1; try simp only [] at hp1)
   refine c_skip ?_
   refine c_block ?_
   refine c_draw1 fun K hK => ?_
   simp only [vm, vr, q37, reduceIte, Nat.reduceEqDiff, Nat.reduceAdd, Nat.reduceLeDiff, reduceCtorEq]
   (refine atI_map 0 (by first | assumption | omega | (simp; done) | (simp; omega)) (by first | assumption | omega | (simp; done) | (simp; omega)) ?_; simp only [vm, vr, q37, es, reduceIte, Nat.reduceEqDiff, Nat.reduceLeDiff, reduceCtorEq])
   (refine atI_map default (by first | assumption | omega | (simp; done) | (simp; omega)) (by first | assumption | omega | (simp; done) | (simp; omega)) ?_; simp only [vm, vr, q37, Nat.reduceAdd])
   (apply d_call (hs70); (case hf => rfl); (case hq => (simp only [vm, reduceIte, Nat.reduceEqDiff]; rfl)); (case hvs => rfl))
   simp only [vm, vr, vp, q37, reduceIte, Nat.reduceEqDiff, Nat.reduceAdd, Nat.reduceLeDiff, Nat.reduceMul, Nat.reduceLT, reduceCtorEq]
   refine need_by (by first | assumption | omega | (simp; done) | (simp; omega)) ?_
   refine need_by (by first | assumption | omega | (simp; done) | (simp; omega)) ?_
   (refine draw_ok (by decide +kernel) (hK _ ?_); clear hK; clear K)
   simp only [thenV_n, blockV_n]
   refine c_reg1 fun K hK => ?_
   simp only [vm, vr, reduceIte, Nat.reduceEqDiff]
   (simp (disch := omega) only [wr64]; try simp only [vm, vr, vt, vp, q37, mapbnk, mapp2, kl, es, hb1, Int.reduceBNe, Int.reduceBEq, Int.reduceLT, Int.reduceLE, Int.reduceGT, Int.reduceGE, decide_true, decide_false, bne_self_eq_false, beq_self_eq_true, reduceIte, Nat.reduceEqDiff, Nat.reduceAdd, Nat.reduceLeDiff, Nat.reduceMul, Nat.reduceLT, reduceCtorEq])
   (refine hK _ ?_; clear hK K)
   simp only [thenV_n]
   rotate_left
   cases hb1
   refine ⟨i + 1, ?_, by omega, by omega⟩
   rw [hsu]
   ((show Wk _ _ _; simp only [vm, vmk, reduceIte, Nat.reduceEqDiff, Nat.reduceAdd, Nat.reduceLT, reduceCtorEq]; (try simp (disch := omega) only [wr64]); try omega))
   all_goals first | done | exact ⟨by omega, by simp⟩ | (simp; done)
  ·
   have kl : decide ((i : Int) < (l.length : Int)) = false := decide_eq_false (by omega)
   obtain rfl : i = l.length := by omega
   refine c_assoc ?_
   refine c_reg fun K hK => ?_
   simp only [vm, vr, q37, kl, reduceIte, Nat.reduceEqDiff]
   (refine hK _ ?_; clear hK K)
   refine c_if _ rfl (fun hb1 => ?_) (fun hb1 => ?_) <;> (have hp1 := hb1; try simp only [] at hp1)
   cases hb1
   refine c_exit ?_
   simp only [thenV_n, thenV_e, blockV_e, reduceIte]
   refine c_reg fun K hK => ?_
   simp only [vm, vr, reduceIte, Nat.reduceEqDiff]
   (refine hK _ ?_; clear hK K)
   refine c_ret1 ?_
   simp only [vm, vr, reduceIte, Nat.reduceEqDiff, reduceCtorEq]
theorem spec38 (t : CTab) (x : CStrip) (l : List Int) (ht : TabOk t) (hx : StrOk x) (hl : l.length = x.ents.length) (hs : setsE t l = 0) : Sp0 38 [ctV t, csV x, .sl (l.map nn)] (R.v (.sl ((anL t x l l.length).map nn))) := by
 have hxl := hx.len
 have hsm := hx.same
 have htl := ht.len
 refine spec_of mixed (fun _ _ _ h => h) Tryz.func38 (by decide +kernel) rfl (rs := _) rfl (by rfl) rfl (by simp [Tryz.f38]) (by decide +kernel) ?_; simp only [argsG, Nat.zero_add, Nat.reduceAdd]
 refine c_reg fun K hK => ?_
 simp only [vm, vr, reduceIte, Nat.reduceEqDiff, Nat.reduceAdd, reduceCtorEq]
 refine need_by (by first | assumption | omega | (simp; done) | (simp; omega)) ?_
 refine need_by (by first | assumption | omega | (simp; done) | (simp; omega)) ?_
 (refine hK _ ?_; clear hK K)
 refine c_reg fun K hK => ?_
 simp only [vm, vr, q38, reduceIte, Nat.reduceEqDiff, Nat.reduceAdd, Nat.reduceLeDiff, reduceCtorEq]
 (apply s_call (spec37 _ _ _ ?s5201x1 ?s5201x2 ?s5201x3 ?s5201x4); (case hf => rfl); (case hq => (simp only [vm, reduceIte, Nat.reduceEqDiff, reduceCtorEq]; rfl)); (case hvs => rfl); (case s5201x1 | s5201x2 | s5201x3 | s5201x4 => first | assumption | omega | (simp; done) | (simp; omega)))
 simp only [vm, vr, reduceIte, Nat.reduceEqDiff, reduceCtorEq]
 (refine hK _ ?_; clear hK K)
 refine c_reg fun K hK => ?_
 simp only [vm, vr]
 (refine hK _ ?_; clear hK K)
 refine c_assoc ?_
 refine c_reg fun K hK => ?_
 simp only [vm, vr]
 (refine hK _ ?_; clear hK K)
 refine c_block ?_
 refine vcode_loop (fun i : Nat => [(4, L.own 4 0), (6, L.nilS), (7, L.p (V.sl (List.map p2 (exL t x l l.length)))), (8, L.arr 60 0), (9, L.p (nn i))]) (fun i => [(Key.a 60, M.arr 0 3 1 ((anL t x l i).map nn)), (Key.b 4, M.box 2), (Key.c 4 0, M.cell (L.p (V.sl (x.ents.map p2)))), (Key.c 4 1, M.cell (L.p (V.sl (x.tars.map p2))))]) (fun i => i ≤ l.length) (fun i => l.length - i) 0 (Nat.zero_le _) ?_ ?_
 ·
  (simp only [vm, vmk, reduceIte, Nat.reduceEqDiff, Nat.reduceAdd, Nat.reduceLT, reduceCtorEq]; try simp (disch := omega) only [wr64]; try omega)
  exact ⟨.inr trivial, by simp [anL]⟩
 ·
  intro i hi
  have hxe : (exL t x l l.length).length = l.length := by simp [exL]
  rcases Nat.lt_or_ge i l.length with hil | hil
  ·
   have kl : decide ((i : Int) < (((exL t x l l.length).length : Nat) : Int)) = true := decide_eq_true (by omega)
   have hea : (exL t x l l.length).getD i default = pasR t (l.getD i 0).toNat (x.ents.getD i default) := by
    rw [List.getD_eq_getElem?_getD, exL, List.getElem?_map, List.getElem?_range hil]; rfl
   have hs69 := spec69 (pasR t (l.getD i 0).toNat (x.ents.getD i default)) (x.tars.getD i default)
   have hel : (anL t x l i).length = i := by simp [anL]
   refine c_assoc ?_
   refine c_reg fun K hK => ?_
   simp only [vm, vr, q38, kl, reduceIte, Nat.reduceEqDiff]
   (refine hK _ ?_; clear hK K)
   refine c_if _ rfl (fun hb1 => ?_) (fun hb1 => ?_) <;> (have hp1 := hb1; try simp only [] at hp1)
   refine c_skip ?_
   refine c_block ?_
   refine c_draw1 fun K hK => ?_
   simp only [vm, vr, q38, reduceIte, Nat.reduceEqDiff, Nat.reduceAdd]
   (refine atI_map default (by first | assumption | omega | (simp; done) | (simp; omega)) (by first | assumption | omega | (simp; done) | (simp; omega)) ?_; simp only [vm, vr, q38, hea, reduceIte, Nat.reduceAdd, Nat.reduceLeDiff, reduceCtorEq])
   (refine atI_map default (by first | assumption | omega | (simp; done) | (simp; omega)) (by first | assumption | omega | (simp; done) | (simp; omega)) ?_; simp only [vm, vr, q38, Nat.reduceAdd])
   (apply d_call (hs69); (case hf => rfl); (case hq => (simp only [vm, reduceIte, Nat.reduceEqDiff]; rfl)); (case hvs => rfl))
   simp only [vm, vr, vp, q38, reduceIte, Nat.reduceEqDiff, Nat.reduceAdd, Nat.reduceLeDiff, Nat.reduceMul, reduceCtorEq]
   refine need_by (by first | assumption | omega | (simp; done) | (simp; omega)) ?_
   refine need_by (by first | assumption | omega | (simp; done) | (simp; omega)) ?_
   (refine draw_ok (by decide +kernel) (hK _ ?_); clear hK; clear K)
   simp only [thenV_n, blockV_n]
   refine c_reg1 fun K hK => ?_
   simp only [vm, vr, reduceIte, Nat.reduceEqDiff]
   (simp (disch := omega) only [wr64]; try simp only [vm, vr, vt, vp, q38, mapbnk, mapp2, kl, hea, hb1, Int.reduceBNe, Int.reduceBEq, Int.reduceLT, Int.reduceLE, Int.reduceGT, Int.reduceGE, decide_true, decide_false, bne_self_eq_false, beq_self_eq_true, reduceIte, Nat.reduceEqDiff, Nat.reduceAdd, Nat.reduceLeDiff, Nat.reduceMul, Nat.reduceLT, reduceCtorEq])
   (refine hK _ ?_; clear hK K)
   simp only [thenV_n]
   rotate_left
   cases hb1
   refine ⟨i + 1, ?_, by omega, by omega⟩
   rw [anL_succ]
   ((show Wk _ _ _; simp only [vm, vmk, reduceIte, Nat.reduceEqDiff, Nat.reduceAdd, Nat.reduceLT, reduceCtorEq]; (try simp (disch := omega) only [wr64]); try omega))
   all_goals first | done | exact ⟨by omega, by simp⟩ | (simp; done)
  ·
   have kl : decide ((i : Int) < (((exL t x l l.length).length : Nat) : Int)) = false := decide_eq_false (by omega)
   obtain rfl : i = l.length := by omega
   refine c_assoc ?_
   refine c_reg fun K hK => ?_
   simp only [vm, vr, q38, kl, reduceIte, Nat.reduceEqDiff]
   (refine hK _ ?_; clear hK K)
   refine c_if _ rfl (fun hb1 => ?_) (fun hb1 => ?_) <;> (have hp1 := hb1; try simp only [] at hp1)
   cases hb1
   refine c_exit ?_
   simp only [thenV_n, thenV_e, blockV_e, reduceIte]
   refine c_reg fun K hK => ?_
   simp only [vm, vr, reduceIte, Nat.reduceEqDiff]
   (refine hK _ ?_; clear hK K)
   refine c_ret1 ?_
   simp only [vm, vr, reduceIte, Nat.reduceEqDiff, reduceCtorEq]
theorem spec58 (l : List (Int × Int)) (hl : l.length < 1000000) : Sp0 58 [.sl (l.map p2)] (.one (.c (.arr 63 2 (l.map p2)))) := by
 refine spec_of_x mixed (fun _ _ _ h => h) Tryz.func58 (by decide +kernel) rfl (rs := _) rfl (by rfl) rfl (by simp [Tryz.f58]) (by decide +kernel) ?_; simp only [argsG]
 refine c_reg fun K hK => ?_
 simp only [vm]
 (refine hK _ ?_; clear hK K)
 refine c_reg fun K hK => ?_
 simp only [vm, vr, vp, q58, reduceIte, Nat.reduceEqDiff, Nat.reduceAdd, Nat.reduceLeDiff, Nat.reduceMul, Nat.reduceLT, reduceCtorEq]
 refine need_by (by first | assumption | omega | (simp; done) | (simp; omega)) ?_
 refine need_by (by first | assumption | omega | (simp; done) | (simp; omega)) ?_
 (refine hK _ ?_; clear hK K)
 refine c_ret1 ?_
 simp only [vm, vr, reduceIte, Nat.reduceEqDiff, reduceCtorEq]
 exact ⟨_, rfl, rfl⟩
theorem spec12 (l : List Int) (hl : l.length < 1000000) : Sp0 12 [.sl (l.map nn)] (.one (.c (.arr 3 1 (l.map nn)))) := by
 refine spec_of_x mixed (fun _ _ _ h => h) Tryz.func12 (by decide +kernel) rfl (rs := _) rfl (by rfl) rfl (by simp [Tryz.f12]) (by decide +kernel) ?_; simp only [argsG]
 refine c_reg fun K hK => ?_
 simp only [vm]
 (refine hK _ ?_; clear hK K)
 refine c_reg fun K hK => ?_
 simp only [vm, vr, vp, q12, reduceIte, Nat.reduceEqDiff, Nat.reduceAdd, Nat.reduceLeDiff, Nat.reduceMul, reduceCtorEq]
 refine need_by (by first | assumption | omega | (simp; done) | (simp; omega)) ?_
 refine need_by (by first | assumption | omega | (simp; done) | (simp; omega)) ?_
 (refine hK _ ?_; clear hK K)
 refine c_ret1 ?_
 simp only [vm, vr, reduceIte, Nat.reduceEqDiff, reduceCtorEq]
 exact ⟨_, rfl, rfl⟩
theorem spec14 (x : CStrip) (hl : x.ents.length < 1000000) (h2 : x.tars.length < 1000000) : Sp0 14 [csV x] (.one (.agg [.arr 63 2 (x.ents.map p2), .arr 63 2 (x.tars.map p2)])) := by
 refine spec_of_x mixed (fun _ _ _ h => h) Tryz.func14 (by decide +kernel) rfl (rs := _) rfl (by rfl) rfl (by simp [Tryz.f14]) (by decide +kernel) ?_; simp only [argsG]
 refine c_reg fun K hK => ?_
 simp only [vm, vr, q14, reduceIte, Nat.reduceEqDiff, Nat.reduceAdd, reduceCtorEq]
 refine need_by (by first | assumption | omega | (simp; done) | (simp; omega)) ?_
 refine need_by (by first | assumption | omega | (simp; done) | (simp; omega)) ?_
 (refine hK _ ?_; clear hK K)
 refine c_draw fun K hK => ?_
 simp only [vm, vr, q14, reduceIte, Nat.reduceEqDiff, Nat.reduceLeDiff, reduceCtorEq]
 (apply d_calla (spec58 _ ?s8001x1); (case hf => rfl); (case hq => (simp only [vm, reduceIte, Nat.reduceEqDiff, reduceCtorEq]; rfl)); (case hvs => rfl); (case hfr => (simp only [vm, reduceIte, Nat.reduceEqDiff, reduceCtorEq])); (case hfz => rfl); (case s8001x1 => first | assumption | omega | (simp; done) | (simp; omega)))
 simp only [vm, vr, q14, reduceIte, Nat.reduceEqDiff, Nat.reduceAdd, Nat.reduceLeDiff, reduceCtorEq]
 (apply d_calla (spec58 _ ?s8002x1); (case hf => rfl); (case hq => (simp only [vm, reduceIte, Nat.reduceEqDiff, reduceCtorEq]; rfl)); (case hvs => rfl); (case hfr => (simp only [vm, reduceIte, Nat.reduceEqDiff, reduceCtorEq])); (case hfz => rfl); (case s8002x1 => first | assumption | omega | (simp; done) | (simp; omega)))
 simp only [vm, vr, q14, reduceIte, Nat.reduceEqDiff, Nat.reduceAdd, Nat.reduceLeDiff, reduceCtorEq]
 (refine draw_ok (by decide +kernel) (hK _ ?_); clear hK; clear K)
 refine c_ret1 ?_
 simp only [vm, vr, q14, reduceIte, Nat.reduceEqDiff, Nat.reduceAdd, Nat.reduceLeDiff, reduceCtorEq]
 exact ⟨_, rfl, rfl⟩
theorem spec21 (xs ys : List Int) (hl : xs.length < 1000000) : Sp0 21 [.sl (xs.map nn), .sl (ys.map nn)] (R.v (.b (xs == ys))) := by
 refine spec_of mixed (fun _ _ _ h => h) Tryz.func21 (by decide +kernel) rfl (rs := _) rfl (by rfl) rfl (by simp [Tryz.f21]) (by decide +kernel) ?_; simp only [argsG, Nat.zero_add]
 refine c_reg fun K hK => ?_
 simp only [vm]
 (refine hK _ ?_; clear hK K)
 refine c_assoc ?_
 refine c_reg fun K hK => ?_
 simp only [vm, q21, reduceIte, Nat.reduceEqDiff, reduceCtorEq]
 (refine hK _ ?_; clear hK K)
 refine c_if _ rfl (fun hb1 => ?_) (fun hb1 => ?_) <;> (have hp1 := hb1; try simp only [bne_iff_ne, bne_eq_false_iff_eq] at hp1)
 refine c_assoc ?_
 refine c_reg fun K hK => ?_
 simp only [vm, hb1]
 (refine hK _ ?_; clear hK K)
 refine c_ret ?_
 simp only [vm, vr, reduceIte, Nat.reduceEqDiff, reduceCtorEq]
 rotate_left
 refine c_skip ?_
 refine c_assoc ?_
 refine c_reg fun K hK => ?_
 simp only [vm, hb1]
 (refine hK _ ?_; clear hK K)
 refine c_block ?_
 rotate_left
 ·
  simp; intro e; exact hp1 (by rw [e])
 refine vcode_loop (fun i : Nat => [(0, L.p (V.sl (List.map nn xs))), (1, L.p (V.sl (List.map nn ys))), (4, L.p (V.b false)), (5, L.p (nn i))]) (fun _ => []) (fun i => i ≤ xs.length ∧ xs.take i = ys.take i) (fun i => xs.length - i) 0 ⟨Nat.zero_le _, by simp⟩ ?_ ?_
 ·
  simp only [vm, vmk, reduceIte, Nat.reduceEqDiff, reduceCtorEq]
 ·
  rintro i ⟨hi, hq⟩
  refine c_assoc ?_
  refine c_reg fun K hK => ?_
  simp only [vm, q21, reduceIte, Nat.reduceEqDiff, reduceCtorEq]
  (refine hK _ ?_; clear hK K)
  refine c_if _ rfl (fun hb2 => ?_) (fun hb2 => ?_) <;> (have hp2 := hb2; try simp only [decide_eq_true_eq, decide_eq_false_iff_not, Int.not_lt] at hp2)
  refine c_skip ?_
  refine c_block ?_
  refine c_draw fun K hK => ?_
  simp only [vm, vr, q21, hb2, reduceIte, Nat.reduceEqDiff, reduceCtorEq]
  (refine atI_map 0 (by first | assumption | omega | (simp; done) | (simp; omega)) (by first | assumption | omega | (simp; done) | (simp; omega)) ?_; simp only [vm, vr, q21])
  (refine atI_map 0 (by first | assumption | omega | (simp; done) | (simp; omega)) (by first | assumption | omega | (simp; done) | (simp; omega)) ?_; simp only [vm, vr, q21])
  (refine draw_ok (by decide +kernel) (hK _ ?_); clear hK; clear K)
  refine vcode_if _ rfl (fun hb3 => ?_) (fun hb3 => ?_) <;> (have hp3 := hb3; try simp only [bne_iff_ne, bne_eq_false_iff_eq] at hp3)
  refine c_reg fun K hK => ?_
  simp only [vm, hb3]
  (refine hK _ ?_; clear hK K)
  refine c_ret1 ?_
  simp only [thenV_r, blockV_r]
  simp only [vm, vr, reduceIte, Nat.reduceEqDiff, reduceCtorEq]
  rotate_left
  refine c_skip1 ?_
  simp only [thenV_n, blockV_n]
  refine c_reg1 fun K hK => ?_
  simp only [vm, hb3, reduceIte, Nat.reduceEqDiff, reduceCtorEq]
  (simp (disch := omega) only [wr64]; try simp only [vm, vr, vt, vp, q21, hb1, hb2, hb3, Int.reduceBNe, Int.reduceBEq, Int.reduceLT, Int.reduceLE, Int.reduceGT, Int.reduceGE, decide_true, decide_false, bne_self_eq_false, beq_self_eq_true, reduceIte, Nat.reduceEqDiff, Nat.reduceAdd, Nat.reduceLeDiff, Nat.reduceMul, Nat.reduceLT, reduceCtorEq])
  (refine hK _ ?_; clear hK K)
  simp only [thenV_n]
  rotate_left
  refine c_exit ?_
  simp only [thenV_n, thenV_e, blockV_e, reduceIte]
  refine c_reg fun K hK => ?_
  simp only [vm, hb2]
  (refine hK _ ?_; clear hK K)
  refine c_ret1 ?_
  simp only [vm, vr, reduceIte, Nat.reduceEqDiff, reduceCtorEq]
  rotate_left
  ·
   simp; intro e; subst e; simp at hp3
  ·
   refine ⟨i + 1, ?_, ⟨by omega, ?_⟩, by omega⟩
   ·
    (simp only [vm, vmk, reduceIte, Nat.reduceEqDiff, reduceCtorEq]; try simp (disch := omega) only [wr64]; try omega)
    rfl
   ·
    rw [takeS 0 (by omega), takeS 0 (by omega), hq, hp3]
  ·
   rw [List.take_of_length_le (by omega), List.take_of_length_le (by omega)] at hq
   simp [hq]
theorem spec36 (xs ys : List (Int × Int)) (hl : xs.length < 1000000) : Sp0 36 [.sl (xs.map p2), .sl (ys.map p2)] (R.v (.b (xs == ys))) := by
 refine spec_of mixed (fun _ _ _ h => h) Tryz.func36 (by decide +kernel) rfl (rs := _) rfl (by rfl) rfl (by simp [Tryz.f36]) (by decide +kernel) ?_; simp only [argsG, Nat.zero_add]
 refine c_reg fun K hK => ?_
 simp only [vm]
 (refine hK _ ?_; clear hK K)
 refine c_assoc ?_
 refine c_reg fun K hK => ?_
 simp only [vm, q36, reduceIte, Nat.reduceEqDiff, reduceCtorEq]
 (refine hK _ ?_; clear hK K)
 refine c_if _ rfl (fun hb1 => ?_) (fun hb1 => ?_) <;> (have hp1 := hb1; try simp only [bne_iff_ne, bne_eq_false_iff_eq] at hp1)
 refine c_assoc ?_
 refine c_reg fun K hK => ?_
 simp only [vm, hb1]
 (refine hK _ ?_; clear hK K)
 refine c_ret ?_
 simp only [vm, vr, reduceIte, Nat.reduceEqDiff, reduceCtorEq]
 rotate_left
 refine c_skip ?_
 refine c_assoc ?_
 refine c_reg fun K hK => ?_
 simp only [vm, hb1]
 (refine hK _ ?_; clear hK K)
 refine c_block ?_
 rotate_left
 ·
  simp; intro e; exact hp1 (by rw [e])
 refine vcode_loop (fun i : Nat => [(0, L.p (V.sl (List.map p2 xs))), (1, L.p (V.sl (List.map p2 ys))), (4, L.p (V.b false)), (5, L.p (nn i))]) (fun _ => []) (fun i => i ≤ xs.length ∧ xs.take i = ys.take i) (fun i => xs.length - i) 0 ⟨Nat.zero_le _, by simp⟩ ?_ ?_
 ·
  simp only [vm, vmk, reduceIte, Nat.reduceEqDiff, reduceCtorEq]
 ·
  rintro i ⟨hi, hq⟩
  refine c_assoc ?_
  refine c_reg fun K hK => ?_
  simp only [vm, q36, reduceIte, Nat.reduceEqDiff, reduceCtorEq]
  (refine hK _ ?_; clear hK K)
  refine c_if _ rfl (fun hb2 => ?_) (fun hb2 => ?_) <;> (have hp2 := hb2; try simp only [decide_eq_true_eq, decide_eq_false_iff_not, Int.not_lt] at hp2)
  refine c_skip ?_
  refine c_block ?_
  refine c_draw fun K hK => ?_
  simp only [vm, vr, q36, hb2, reduceIte, Nat.reduceEqDiff, reduceCtorEq]
  (refine atI_map default (by first | assumption | omega | (simp; done) | (simp; omega)) (by first | assumption | omega | (simp; done) | (simp; omega)) ?_; simp only [vm, vr, q36, Nat.reduceAdd])
  (refine atI_map default (by first | assumption | omega | (simp; done) | (simp; omega)) (by first | assumption | omega | (simp; done) | (simp; omega)) ?_; simp only [vm, vr, q36, Nat.reduceAdd])
  (refine draw_ok (by decide +kernel) (hK _ ?_); clear hK; clear K)
  refine vcode_if _ rfl (fun hb3 => ?_) (fun hb3 => ?_) <;> (have hp3 := hb3; try simp only [Bool.and_eq_true, Bool.not_eq_true', Bool.not_eq_false', Bool.and_eq_false_iff, beq_iff_eq, beq_eq_false_iff_ne] at hp3)
  refine c_reg fun K hK => ?_
  simp only [vm, hb3]
  (refine hK _ ?_; clear hK K)
  refine c_ret1 ?_
  simp only [thenV_r, blockV_r]
  simp only [vm, vr, reduceIte, Nat.reduceEqDiff, reduceCtorEq]
  rotate_left
  refine c_skip1 ?_
  simp only [thenV_n, blockV_n]
  refine c_reg1 fun K hK => ?_
  simp only [vm, hb3, reduceIte, Nat.reduceEqDiff, reduceCtorEq]
  (simp (disch := omega) only [wr64]; try simp only [vm, vr, vt, vp, q36, hb1, hb2, hb3, Int.reduceBNe, Int.reduceBEq, Int.reduceLT, Int.reduceLE, Int.reduceGT, Int.reduceGE, decide_true, decide_false, bne_self_eq_false, beq_self_eq_true, reduceIte, Nat.reduceEqDiff, Nat.reduceAdd, Nat.reduceLeDiff, Nat.reduceMul, Nat.reduceLT, reduceCtorEq])
  (refine hK _ ?_; clear hK K)
  simp only [thenV_n]
  rotate_left
  refine c_exit ?_
  simp only [thenV_n, thenV_e, blockV_e, reduceIte]
  refine c_reg fun K hK => ?_
  simp only [vm, hb2]
  (refine hK _ ?_; clear hK K)
  refine c_ret1 ?_
  simp only [vm, vr, reduceIte, Nat.reduceEqDiff, reduceCtorEq]
  rotate_left
  ·
   simp; intro e; subst e; simp at hp3
  ·
   refine ⟨i + 1, ?_, ⟨by omega, ?_⟩, by omega⟩
   ·
    (simp only [vm, vmk, reduceIte, Nat.reduceEqDiff, reduceCtorEq]; try simp (disch := omega) only [wr64]; try omega)
    rfl
   ·
    rw [takeS default (by omega), takeS default (by omega), hq]
    simp only [Bool.not_eq_false', Bool.and_eq_true, beq_iff_eq] at hb3
    rw [Prod.ext hb3.1 hb3.2]
  ·
   rw [List.take_of_length_le (by omega), List.take_of_length_le (by omega)] at hq
   simp [hq]
end Go.Vm
