import Derived.Test.YtfmkfaohhpmpaaaGreatDoorVmBC
import Derived.Test.YtfmkfaohhpmpaaaGreatDoorWcR
set_option linter.all false
namespace Go.Vm
open Go.Proofs
set_option maxRecDepth 20000
set_option maxHeartbeats 8000000
--DEF TAB = nn t.water; nn t.air; V.sl (t.banks.map bnkV)
--DEF STR = V.sl (x.ents.map p2); V.sl (x.tars.map p2)
def rraN (t : CTab) (x : CStrip) (i n : Nat) : List Nat := (preL t i n).filter fun s => ansA t x i s == 2
theorem rraN_yes {t : CTab} {x : CStrip} {i n : Nat} (h : subB n (avV t i) = true) (c : (ansA t x i n == 2) = true) : rraN t x i (n + 1) = rraN t x i n ++ [n] := by
 unfold rraN; rw [preL_yes h]; simp [List.filter_append, c]
theorem rraN_no {t : CTab} {x : CStrip} {i n : Nat} (h : subB n (avV t i) = true) (c : (ansA t x i n == 2) = false) : rraN t x i (n + 1) = rraN t x i n := by
 unfold rraN; rw [preL_yes h]; simp [List.filter_append, c]
theorem rraN_out {t : CTab} {x : CStrip} {i n : Nat} (h : subB n (avV t i) = false) : rraN t x i (n + 1) = rraN t x i n := by
 unfold rraN; rw [preL_no h]
theorem rraN_all {t : CTab} {x : CStrip} {i : Nat} : rraN t x i (cntA t) = rchS t x i := rfl
theorem sub_r {t : CTab} {i s : Nat} (h4 : t.banks.length ≤ 4) (hs : s < 16) : (bitI .andNot .i64 (s : Int) (avV t i : Int) == 0) = subB s (avV t i) := sub_iq s hs _ (avV_lt h4)
theorem spec81 (t : CTab) (x : CStrip) (i : Nat) (ht : TabOk t) (hx : StrOk x) (hi : i < x.ents.length) : Sp0 81 [ctV t, csV x, nn i] (R.v (.sl ((natL (rchS t x i)).map nn))) := by
 have h4 := ht.len.2
 have hA : 2 ^ t.banks.length ≤ 16 := cntA_le h4
 have hxl := hx.len
 have hs48 := spec48 t h4
 have hs82 := spec82 t i ht (by omega)
 refine spec_of mixed (fun _ _ _ h => h) Tryz.func81 (by decide +kernel) rfl (rs := _) rfl (by rfl) rfl (by simp [Tryz.f81]) (by decide +kernel) ?_; simp only [argsG, Nat.zero_add, Nat.reduceAdd]
 refine c_reg fun K hK => ?_
 simp only [vm, vr, reduceIte, Nat.reduceEqDiff, Nat.reduceAdd, reduceCtorEq]
 refine need_by (by first | assumption | omega | (simp; done) | (simp; omega)) ?_
 refine need_by (by first | assumption | omega | (simp; done) | (simp; omega)) ?_
 (refine hK _ ?_; clear hK K)
 refine c_reg fun K hK => ?_
 simp only [vm, vr]
 (refine hK _ ?_; clear hK K)
 refine c_assoc ?_
 refine c_reg fun K hK => ?_
 simp only [vm, vr]
 (refine hK _ ?_; clear hK K)
 refine c_block ?_
 refine vcode_loop (fun n : Nat => [(2, L.p (nn i)), (3, L.own 3 0), (4, L.own 4 0), (6, L.nilS), (7, L.arr 60 0), (8, L.p (nn n))]) (fun n => [(Key.a 60, M.arr 0 3 1 ((natL (rraN t x i n)).map nn)), (Key.b 4, M.box 2), (Key.c 4 0, M.cell (L.p (V.sl (x.ents.map p2)))), (Key.c 4 1, M.cell (L.p (V.sl (x.tars.map p2)))), (Key.b 3, M.box 3), (Key.c 3 0, M.cell (L.p (nn t.water))), (Key.c 3 1, M.cell (L.p (nn t.air))), (Key.c 3 2, M.cell (L.p (V.sl (t.banks.map bnkV))))]) (fun n => n ≤ 2 ^ t.banks.length) (fun n => 2 ^ t.banks.length - n) 0 (Nat.zero_le _) ?_ ?_
 ·
  (simp only [vm, vmk, reduceIte, Nat.reduceEqDiff, Nat.reduceAdd, Nat.reduceLT, reduceCtorEq]; try simp (disch := omega) only [wr64]; try omega)
  exact ⟨.inr trivial, by simp [rraN, preL]⟩
 ·
  intro n hn
  rcases Nat.lt_or_ge n (2 ^ t.banks.length) with hnl | hnl
  ·
   have kl : decide ((n : Int) < ((2 ^ t.banks.length : Nat) : Int)) = true := decide_eq_true (by omega)
   have kb := sub_r (t := t) (i := i) h4 (show n < 16 by omega)
   have hol : (rraN t x i n).length ≤ n := by
    have h1 := List.length_filter_le (fun s => ansA t x i s == 2) (preL t i n)
    have h2 := List.length_filter_le (fun s => subB s (avV t i)) (List.range n)
    rw [List.length_range] at h2
    unfold rraN
    have h3 : (preL t i n).length ≤ n := h2
    omega
   cases c : subB n (avV t i) with
   | true =>
    rw [c] at kb
    have hs102 := spec102 t n (x.ents.getD i default) ht (by omega) (hx.ent i hi)
    have hs101 : Sp0 101 [p2 (pasR t n (x.ents.getD i default)), p2 (x.tars.getD i default)] (R.v (nn (ansA t x i n))) := spec101 _ _
    have hsm := hx.same
    cases c2 : (ansA t x i n == 2) with
    | true =>
     refine c_assoc ?_
     refine c_reg fun K hK => ?_
     simp only [vm, vr, q81, reduceIte, Nat.reduceEqDiff, Nat.reduceAdd, Nat.reduceLeDiff, reduceCtorEq]
     (apply s_call (hs48); (case hf => rfl); (case hq => (simp only [vm, reduceIte, Nat.reduceEqDiff]; rfl)); (case hvs => rfl))
     simp only [vm, vr, kl, reduceIte, Nat.reduceEqDiff]
     (refine hK _ ?_; clear hK K)
     refine c_if _ rfl (fun hb1 => ?_) (fun hb1 => ?_) <;> (have hp1 := hb1; try simp only [] at hp1)
     refine c_skip ?_
     refine c_block ?_
     refine c_draw fun K hK => ?_
     refine d_one fun K hK => ?_
     simp only [vm, vw, reduceIte, Nat.reduceEqDiff]
     (refine hK _ ?_; clear hK K)
     refine d_one fun K hK => ?_
     simp only [vm, vr, q81, vw, reduceIte, Nat.reduceEqDiff, Nat.reduceAdd, Nat.reduceLeDiff, reduceCtorEq]
     (refine hK _ ?_; clear hK K)
     refine d_one fun K hK => ?_
     simp only [vm, vr, vw, reduceIte, Nat.reduceEqDiff]
     (refine hK _ ?_; clear hK K)
     (apply d_call (hs82); (case hf => rfl); (case hq => (simp only [vm, vr, reduceIte, Nat.reduceEqDiff]; rfl)); (case hvs => rfl))
     refine d_one fun K hK => ?_
     simp only [vm, vr, vw, reduceIte, Nat.reduceEqDiff]
     (refine hK _ ?_; clear hK K)
     refine d_one fun K hK => ?_
     simp only [vm, vr, kb, vw, reduceIte, Nat.reduceEqDiff]
     (refine hK _ ?_; clear hK K)
     refine d_one fun K hK => ?_
     simp only [vm, vr, vw, reduceIte, Nat.reduceEqDiff]
     (refine hK _ ?_; clear hK K)
     refine d_oneg fun K hK => ?_
     simp only [vm, vr, reduceIte, Nat.reduceEqDiff]
     simp only [vm, q81, vw, reduceIte, Nat.reduceEqDiff, Nat.reduceAdd, Nat.reduceLeDiff, reduceCtorEq]
     (refine hK _ ?_; clear hK K)
     refine d_oneg fun K hK => ?_
     simp only [vm, vr, reduceIte, Nat.reduceEqDiff]
     simp only [vm, vw, reduceIte, Nat.reduceEqDiff]
     (refine hK _ ?_; clear hK K)
     refine d_oneg fun K hK => ?_
     simp only [vm, vr, reduceIte, Nat.reduceEqDiff]
     simp only [vm, q81, vw, reduceIte, Nat.reduceEqDiff, Nat.reduceLeDiff, reduceCtorEq]
     (refine hK _ ?_; clear hK K)
     refine d_oneg fun K hK => ?_
     simp only [vm, vr, reduceIte, Nat.reduceEqDiff]
     simp only [vm, q81, vw, reduceIte, Nat.reduceEqDiff, Nat.reduceLeDiff, reduceCtorEq]
     (refine hK _ ?_; clear hK K)
     refine d_oneg fun K hK => ?_
     simp only [vm, vr, reduceIte, Nat.reduceEqDiff]
     simp only [vm, vw, reduceIte, Nat.reduceEqDiff]
     (refine hK _ ?_; clear hK K)
     refine d_oneg fun K hK => ?_
     simp only [vm, vr, reduceIte, Nat.reduceEqDiff]
     simp only [vm, q81, vw, reduceIte, Nat.reduceEqDiff]
     (refine atI_map default (by first | assumption | omega | (simp; done) | (simp; omega)) (by first | assumption | omega | (simp; done) | (simp; omega)) ?_; simp only [vm, vr, Nat.reduceAdd])
     (refine hK _ ?_; clear hK K)
     refine d_oneg fun K hK => ?_
     simp only [vm, vr, reduceIte, Nat.reduceEqDiff]
     simp only [vm, q81, vw, reduceIte, Nat.reduceEqDiff, Nat.reduceAdd]
     (refine hK _ ?_; clear hK K)
     refine d_oneg fun K hK => ?_
     simp only [vm, vr, reduceIte, Nat.reduceEqDiff]
     simp only [vm, vw, reduceIte, Nat.reduceEqDiff]
     (apply call_v (hs102); (case hq => (simp only [vm]; rfl)); (case hvs => rfl))
     (refine hK _ ?_; clear hK K)
     refine d_oneg fun K hK => ?_
     simp only [vm, vr, reduceIte, Nat.reduceEqDiff]
     simp only [vm, q81, vw, reduceIte, Nat.reduceEqDiff, Nat.reduceAdd, Nat.reduceLeDiff, reduceCtorEq]
     (refine hK _ ?_; clear hK K)
     refine d_oneg fun K hK => ?_
     simp only [vm, vr, reduceIte, Nat.reduceEqDiff]
     simp only [vm, q81, vw, reduceIte, Nat.reduceEqDiff, Nat.reduceAdd, Nat.reduceLeDiff, reduceCtorEq]
     (refine hK _ ?_; clear hK K)
     refine d_oneg fun K hK => ?_
     simp only [vm, vr, reduceIte, Nat.reduceEqDiff]
     simp only [vm, vw, reduceIte, Nat.reduceEqDiff]
     (refine hK _ ?_; clear hK K)
     refine d_oneg fun K hK => ?_
     simp only [vm, vr, reduceIte, Nat.reduceEqDiff]
     simp only [vm, q81, vw, reduceIte, Nat.reduceEqDiff]
     (refine atI_map default (by first | assumption | omega | (simp; done) | (simp; omega)) (by first | assumption | omega | (simp; done) | (simp; omega)) ?_; simp only [vm, vr, Nat.reduceAdd])
     (refine hK _ ?_; clear hK K)
     simp only [vm, vr, q81, reduceIte, Nat.reduceEqDiff, Nat.reduceAdd]
     (apply d_call (hs101); (case hf => rfl); (case hq => (simp only [vm, reduceIte, Nat.reduceEqDiff]; rfl)); (case hvs => rfl))
     simp only [vm, vr, c2, reduceIte, Nat.reduceEqDiff]
     (refine draw_ok (by decide +kernel) (hK _ ?_); clear hK; clear K)
     refine vcode_if _ rfl (fun hb2 => ?_) (fun hb2 => ?_) <;> (have hp2 := hb2; try simp only [] at hp2)
     refine c_reg1 fun K hK => ?_
     simp only [vm, vr, vp, q81, reduceIte, Nat.reduceEqDiff, Nat.reduceAdd, Nat.reduceLeDiff, Nat.reduceMul, reduceCtorEq]
     refine need_by (by first | assumption | omega | (simp; done) | (simp; omega)) ?_
     refine need_by (by first | assumption | omega | (simp; done) | (simp; omega)) ?_
     (refine hK _ ?_; clear hK K)
     simp only [thenV_n, blockV_n]
     refine c_reg1 fun K hK => ?_
     simp only [vm, vr, reduceIte, Nat.reduceEqDiff]
     (simp (disch := omega) only [wr64]; try simp only [vm, vr, vt, vp, q81, mapbnk, mapp2, kl, kb, c2, hb1, hb2, Int.reduceBNe, Int.reduceBEq, Int.reduceLT, Int.reduceLE, Int.reduceGT, Int.reduceGE, decide_true, decide_false, bne_self_eq_false, beq_self_eq_true, reduceIte, Nat.reduceEqDiff, Nat.reduceAdd, Nat.reduceLeDiff, Nat.reduceMul, Nat.reduceLT, reduceCtorEq])
     (refine hK _ ?_; clear hK K)
     simp only [thenV_n]
     rotate_left
     cases hb2
     cases hb1
     refine ⟨n + 1, ?_, by omega, by omega⟩
     rw [rraN_yes c c2]
     ((show Wk _ _ _; simp only [vm, vmk, reduceIte, Nat.reduceEqDiff, Nat.reduceAdd, Nat.reduceLT, reduceCtorEq]; (try simp (disch := omega) only [wr64]); try omega))
     all_goals first | (simp; done) | exact ⟨fun _ => trivial, by omega⟩ | exact ⟨by omega, by simp⟩
    | false =>
     refine c_assoc ?_
     refine c_reg fun K hK => ?_
     simp only [vm, vr, q81, reduceIte, Nat.reduceEqDiff, Nat.reduceAdd, Nat.reduceLeDiff, reduceCtorEq]
     (apply s_call (hs48); (case hf => rfl); (case hq => (simp only [vm, reduceIte, Nat.reduceEqDiff]; rfl)); (case hvs => rfl))
     simp only [vm, vr, kl, reduceIte, Nat.reduceEqDiff]
     (refine hK _ ?_; clear hK K)
     refine c_if _ rfl (fun hb1 => ?_) (fun hb1 => ?_) <;> (have hp1 := hb1; try simp only [] at hp1)
     refine c_skip ?_
     refine c_block ?_
     refine c_draw fun K hK => ?_
     refine d_one fun K hK => ?_
     simp only [vm, vw, reduceIte, Nat.reduceEqDiff]
     (refine hK _ ?_; clear hK K)
     refine d_one fun K hK => ?_
     simp only [vm, vr, q81, vw, reduceIte, Nat.reduceEqDiff, Nat.reduceAdd, Nat.reduceLeDiff, reduceCtorEq]
     (refine hK _ ?_; clear hK K)
     refine d_one fun K hK => ?_
     simp only [vm, vr, vw, reduceIte, Nat.reduceEqDiff]
     (refine hK _ ?_; clear hK K)
     (apply d_call (hs82); (case hf => rfl); (case hq => (simp only [vm, vr, reduceIte, Nat.reduceEqDiff]; rfl)); (case hvs => rfl))
     refine d_one fun K hK => ?_
     simp only [vm, vr, vw, reduceIte, Nat.reduceEqDiff]
     (refine hK _ ?_; clear hK K)
     refine d_one fun K hK => ?_
     simp only [vm, vr, kb, vw, reduceIte, Nat.reduceEqDiff]
     (refine hK _ ?_; clear hK K)
     refine d_one fun K hK => ?_
     simp only [vm, vr, vw, reduceIte, Nat.reduceEqDiff]
     (refine hK _ ?_; clear hK K)
     refine d_oneg fun K hK => ?_
     simp only [vm, vr, reduceIte, Nat.reduceEqDiff]
     simp only [vm, q81, vw, reduceIte, Nat.reduceEqDiff, Nat.reduceAdd, Nat.reduceLeDiff, reduceCtorEq]
     (refine hK _ ?_; clear hK K)
     refine d_oneg fun K hK => ?_
     simp only [vm, vr, reduceIte, Nat.reduceEqDiff]
     simp only [vm, vw, reduceIte, Nat.reduceEqDiff]
     (refine hK _ ?_; clear hK K)
     refine d_oneg fun K hK => ?_
     simp only [vm, vr, reduceIte, Nat.reduceEqDiff]
     simp only [vm, q81, vw, reduceIte, Nat.reduceEqDiff, Nat.reduceLeDiff, reduceCtorEq]
     (refine hK _ ?_; clear hK K)
     refine d_oneg fun K hK => ?_
     simp only [vm, vr, reduceIte, Nat.reduceEqDiff]
     simp only [vm, q81, vw, reduceIte, Nat.reduceEqDiff, Nat.reduceLeDiff, reduceCtorEq]
     (refine hK _ ?_; clear hK K)
     refine d_oneg fun K hK => ?_
     simp only [vm, vr, reduceIte, Nat.reduceEqDiff]
     simp only [vm, vw, reduceIte, Nat.reduceEqDiff]
     (refine hK _ ?_; clear hK K)
     refine d_oneg fun K hK => ?_
     simp only [vm, vr, reduceIte, Nat.reduceEqDiff]
     simp only [vm, q81, vw, reduceIte, Nat.reduceEqDiff]
     (refine atI_map default (by first | assumption | omega | (simp; done) | (simp; omega)) (by first | assumption | omega | (simp; done) | (simp; omega)) ?_; simp only [vm, vr, Nat.reduceAdd])
     (refine hK _ ?_; clear hK K)
     refine d_oneg fun K hK => ?_
     simp only [vm, vr, reduceIte, Nat.reduceEqDiff]
     simp only [vm, q81, vw, reduceIte, Nat.reduceEqDiff, Nat.reduceAdd]
     (refine hK _ ?_; clear hK K)
     refine d_oneg fun K hK => ?_
     simp only [vm, vr, reduceIte, Nat.reduceEqDiff]
     simp only [vm, vw, reduceIte, Nat.reduceEqDiff]
     (apply call_v (hs102); (case hq => (simp only [vm]; rfl)); (case hvs => rfl))
     (refine hK _ ?_; clear hK K)
     refine d_oneg fun K hK => ?_
     simp only [vm, vr, reduceIte, Nat.reduceEqDiff]
     simp only [vm, q81, vw, reduceIte, Nat.reduceEqDiff, Nat.reduceAdd, Nat.reduceLeDiff, reduceCtorEq]
     (refine hK _ ?_; clear hK K)
     refine d_oneg fun K hK => ?_
     simp only [vm, vr, reduceIte, Nat.reduceEqDiff]
     simp only [vm, q81, vw, reduceIte, Nat.reduceEqDiff, Nat.reduceAdd, Nat.reduceLeDiff, reduceCtorEq]
     (refine hK _ ?_; clear hK K)
     refine d_oneg fun K hK => ?_
     simp only [vm, vr, reduceIte, Nat.reduceEqDiff]
     simp only [vm, vw, reduceIte, Nat.reduceEqDiff]
     (refine hK _ ?_; clear hK K)
     refine d_oneg fun K hK => ?_
     simp only [vm, vr, reduceIte, Nat.reduceEqDiff]
     simp only [vm, q81, vw, reduceIte, Nat.reduceEqDiff]
     (refine atI_map default (by first | assumption | omega | (simp; done) | (simp; omega)) (by first | assumption | omega | (simp; done) | (simp; omega)) ?_; simp only [vm, vr, Nat.reduceAdd])
     (refine hK _ ?_; clear hK K)
     simp only [vm, vr, q81, reduceIte, Nat.reduceEqDiff, Nat.reduceAdd]
     (apply d_call (hs101); (case hf => rfl); (case hq => (simp only [vm, reduceIte, Nat.reduceEqDiff]; rfl)); (case hvs => rfl))
     simp only [vm, vr, c2, reduceIte, Nat.reduceEqDiff]
     (refine draw_ok (by decide +kernel) (hK _ ?_); clear hK; clear K)
     refine vcode_if _ rfl (fun hb2 => ?_) (fun hb2 => ?_) <;> (have hp2 := hb2; try simp only [] at hp2)
     cases hb2
     refine c_skip1 ?_
     simp only [thenV_n, blockV_n]
     refine c_reg1 fun K hK => ?_
     simp only [vm, vr, reduceIte, Nat.reduceEqDiff]
     (simp (disch := omega) only [wr64]; try simp only [vm, vr, vt, vp, q81, mapbnk, mapp2, kl, kb, c2, hb1, hb2, Int.reduceBNe, Int.reduceBEq, Int.reduceLT, Int.reduceLE, Int.reduceGT, Int.reduceGE, decide_true, decide_false, bne_self_eq_false, beq_self_eq_true, reduceIte, Nat.reduceEqDiff, Nat.reduceAdd, Nat.reduceLeDiff, Nat.reduceMul, Nat.reduceLT, reduceCtorEq])
     (refine hK _ ?_; clear hK K)
     simp only [thenV_n]
     rotate_left
     cases hb1
     refine ⟨n + 1, ?_, by omega, by omega⟩
     rw [rraN_no c c2]
     ((show Wk _ _ _; simp only [vm, vmk, reduceIte, Nat.reduceEqDiff, Nat.reduceAdd, Nat.reduceLT, reduceCtorEq]; (try simp (disch := omega) only [wr64]); try omega))
     all_goals first | (simp; done) | omega | exact ⟨by omega, by simp⟩
   | false =>
    rw [c] at kb
    refine c_assoc ?_
    refine c_reg fun K hK => ?_
    simp only [vm, vr, q81, reduceIte, Nat.reduceEqDiff, Nat.reduceAdd, Nat.reduceLeDiff, reduceCtorEq]
    (apply s_call (hs48); (case hf => rfl); (case hq => (simp only [vm, reduceIte, Nat.reduceEqDiff]; rfl)); (case hvs => rfl))
    simp only [vm, vr, kl, reduceIte, Nat.reduceEqDiff]
    (refine hK _ ?_; clear hK K)
    refine c_if _ rfl (fun hb1 => ?_) (fun hb1 => ?_) <;> (have hp1 := hb1; try simp only [] at hp1)
    refine c_skip ?_
    refine c_block ?_
    refine c_draw fun K hK => ?_
    refine d_one fun K hK => ?_
    simp only [vm, vw, reduceIte, Nat.reduceEqDiff]
    (refine hK _ ?_; clear hK K)
    refine d_one fun K hK => ?_
    simp only [vm, vr, q81, vw, reduceIte, Nat.reduceEqDiff, Nat.reduceAdd, Nat.reduceLeDiff, reduceCtorEq]
    (refine hK _ ?_; clear hK K)
    refine d_one fun K hK => ?_
    simp only [vm, vr, vw, reduceIte, Nat.reduceEqDiff]
    (refine hK _ ?_; clear hK K)
    (apply d_call (hs82); (case hf => rfl); (case hq => (simp only [vm, vr, reduceIte, Nat.reduceEqDiff]; rfl)); (case hvs => rfl))
    refine d_one fun K hK => ?_
    simp only [vm, vr, vw, reduceIte, Nat.reduceEqDiff]
    (refine hK _ ?_; clear hK K)
    refine d_one fun K hK => ?_
    simp only [vm, vr, kb, vw, reduceIte, Nat.reduceEqDiff]
    (refine hK _ ?_; clear hK K)
    refine d_one fun K hK => ?_
    simp only [vm, vr, vw, reduceIte, Nat.reduceEqDiff]
    (refine hK _ ?_; clear hK K)
    refine d_oneg fun K hK => ?_
    simp only [vm, vr, reduceIte, Nat.reduceEqDiff]
    (refine hK _ ?_; clear hK K)
    refine d_oneg fun K hK => ?_
    simp only [vm, vr, reduceIte, Nat.reduceEqDiff]
    (refine hK _ ?_; clear hK K)
    refine d_oneg fun K hK => ?_
    simp only [vm, vr, reduceIte, Nat.reduceEqDiff]
    (refine hK _ ?_; clear hK K)
    refine d_oneg fun K hK => ?_
    simp only [vm, vr, reduceIte, Nat.reduceEqDiff]
    (refine hK _ ?_; clear hK K)
    refine d_oneg fun K hK => ?_
    simp only [vm, vr, reduceIte, Nat.reduceEqDiff]
    (refine hK _ ?_; clear hK K)
    refine d_oneg fun K hK => ?_
    simp only [vm, vr, reduceIte, Nat.reduceEqDiff]
    (refine hK _ ?_; clear hK K)
    refine d_oneg fun K hK => ?_
    simp only [vm, vr, reduceIte, Nat.reduceEqDiff]
    (refine hK _ ?_; clear hK K)
    refine d_oneg fun K hK => ?_
    simp only [vm, vr, reduceIte, Nat.reduceEqDiff]
    (refine hK _ ?_; clear hK K)
    refine d_oneg fun K hK => ?_
    simp only [vm, vr, reduceIte, Nat.reduceEqDiff]
    (refine hK _ ?_; clear hK K)
    refine d_oneg fun K hK => ?_
    simp only [vm, vr, reduceIte, Nat.reduceEqDiff]
    (refine hK _ ?_; clear hK K)
    refine d_oneg fun K hK => ?_
    simp only [vm, vr, reduceIte, Nat.reduceEqDiff]
    (refine hK _ ?_; clear hK K)
    refine d_oneg fun K hK => ?_
    simp only [vm, vr, reduceIte, Nat.reduceEqDiff]
    (refine hK _ ?_; clear hK K)
    simp only [vm, vr, reduceIte, Nat.reduceEqDiff]
    (refine draw_ok (by decide +kernel) (hK _ ?_); clear hK; clear K)
    refine vcode_if _ rfl (fun hb2 => ?_) (fun hb2 => ?_) <;> (have hp2 := hb2; try simp only [] at hp2)
    cases hb2
    refine c_skip1 ?_
    simp only [thenV_n, blockV_n]
    refine c_reg1 fun K hK => ?_
    simp only [vm, vr, reduceIte, Nat.reduceEqDiff]
    (simp (disch := omega) only [wr64]; try simp only [vm, vr, vt, vp, q81, mapbnk, mapp2, kl, kb, hb1, hb2, Int.reduceBNe, Int.reduceBEq, Int.reduceLT, Int.reduceLE, Int.reduceGT, Int.reduceGE, decide_true, decide_false, bne_self_eq_false, beq_self_eq_true, reduceIte, Nat.reduceEqDiff, Nat.reduceAdd, Nat.reduceLeDiff, Nat.reduceMul, Nat.reduceLT, reduceCtorEq])
    (refine hK _ ?_; clear hK K)
    simp only [thenV_n]
    rotate_left
    cases hb1
    refine ⟨n + 1, ?_, by omega, by omega⟩
    rw [rraN_out c]
    ((show Wk _ _ _; simp only [vm, vmk, reduceIte, Nat.reduceEqDiff, Nat.reduceAdd, Nat.reduceLT, reduceCtorEq]; (try simp (disch := omega) only [wr64]); try omega))
    all_goals first | (simp; done) | omega | exact ⟨by omega, by simp⟩
  ·
   have kl : decide ((n : Int) < ((2 ^ t.banks.length : Nat) : Int)) = false := decide_eq_false (by omega)
   obtain rfl : n = 2 ^ t.banks.length := by omega
   refine c_assoc ?_
   refine c_reg fun K hK => ?_
   simp only [vm, vr, q81, rraN_all, reduceIte, Nat.reduceEqDiff, Nat.reduceAdd, Nat.reduceLeDiff, reduceCtorEq]
   (apply s_call (hs48); (case hf => rfl); (case hq => (simp only [vm, reduceIte, Nat.reduceEqDiff]; rfl)); (case hvs => rfl))
   simp only [vm, vr, kl, reduceIte, Nat.reduceEqDiff]
   (refine hK _ ?_; clear hK K)
   refine c_if _ rfl (fun hb1 => ?_) (fun hb1 => ?_) <;> (have hp1 := hb1; try simp only [] at hp1)
   cases hb1
   refine c_exit ?_
   simp only [thenV_n, thenV_e, blockV_e, reduceIte]
   refine c_reg fun K hK => ?_
   simp only [vm, vr, reduceIte, Nat.reduceEqDiff]
   (refine hK _ ?_; clear hK K)
   refine c_ret1 ?_
   simp only [vm, vr, reduceIte, Nat.reduceEqDiff, reduceCtorEq]
theorem spec49 (t : CTab) (x : CStrip) (i : Nat) (ht : TabOk t) (hx : StrOk x) (hi : i < x.ents.length) : Sp0 49 [ctV t, csV x, nn i] (R.v (.sl ((natL (pmtS t x i)).map nn))) := by
 have h4 := ht.len.2
 have hA : 2 ^ t.banks.length ≤ 16 := cntA_le h4
 have hxl := hx.len
 have hs48 := spec48 t h4
 have hs82 := spec82 t i ht (by omega)
 have hs81 := spec81 t x i ht hx hi
 cases c : decide ((((rchS t x i).length : Nat) : Int) > 0) with
 | true =>
  have hp : pmtS t x i = rchS t x i := by unfold pmtS; rw [if_pos (by have := of_decide_eq_true c; omega)]
  rw [hp]
  refine spec_of mixed (fun _ _ _ h => h) Tryz.func49 (by decide +kernel) rfl (rs := _) rfl (by rfl) rfl (by simp [Tryz.f49]) (by decide +kernel) ?_; simp only [argsG, Nat.zero_add, Nat.reduceAdd]
  refine c_reg fun K hK => ?_
  simp only [vm, vr, reduceIte, Nat.reduceEqDiff, Nat.reduceAdd, reduceCtorEq]
  refine need_by (by first | assumption | omega | (simp; done) | (simp; omega)) ?_
  refine need_by (by first | assumption | omega | (simp; done) | (simp; omega)) ?_
  (refine hK _ ?_; clear hK K)
  refine c_assoc ?_
  refine c_reg fun K hK => ?_
  simp only [vm, vr, q49, reduceIte, Nat.reduceEqDiff, Nat.reduceAdd, Nat.reduceLeDiff, reduceCtorEq]
  (apply s_call (hs81); (case hf => rfl); (case hq => (simp only [vm, reduceIte, Nat.reduceEqDiff, reduceCtorEq]; rfl)); (case hvs => rfl))
  simp only [vm, vr, reduceIte, Nat.reduceEqDiff, reduceCtorEq]
  (refine hK _ ?_; clear hK K)
  refine c_assoc ?_
  refine c_reg fun K hK => ?_
  simp only [vm, vr, q49, c, reduceIte, Nat.reduceEqDiff, reduceCtorEq]
  (refine hK _ ?_; clear hK K)
  refine c_if _ rfl (fun hb1 => ?_) (fun hb1 => ?_) <;> (have hp1 := hb1; try simp only [] at hp1)
  refine c_assoc ?_
  refine c_reg fun K hK => ?_
  simp only [vm, vr, reduceIte, Nat.reduceEqDiff, reduceCtorEq]
  (refine hK _ ?_; clear hK K)
  refine c_ret ?_
  simp only [vm, vr, reduceIte, Nat.reduceEqDiff, reduceCtorEq]
  cases hb1
 | false =>
  have hp : pmtS t x i = setL t i := by unfold pmtS; rw [if_neg (by have := of_decide_eq_false c; omega)]
  rw [hp]
  refine spec_of mixed (fun _ _ _ h => h) Tryz.func49 (by decide +kernel) rfl (rs := _) rfl (by rfl) rfl (by simp [Tryz.f49]) (by decide +kernel) ?_; simp only [argsG, Nat.zero_add, Nat.reduceAdd]
  refine c_reg fun K hK => ?_
  simp only [vm, vr, reduceIte, Nat.reduceEqDiff, Nat.reduceAdd, reduceCtorEq]
  refine need_by (by first | assumption | omega | (simp; done) | (simp; omega)) ?_
  refine need_by (by first | assumption | omega | (simp; done) | (simp; omega)) ?_
  (refine hK _ ?_; clear hK K)
  refine c_assoc ?_
  refine c_reg fun K hK => ?_
  simp only [vm, vr, q49, reduceIte, Nat.reduceEqDiff, Nat.reduceAdd, Nat.reduceLeDiff, reduceCtorEq]
  (apply s_call (hs81); (case hf => rfl); (case hq => (simp only [vm, reduceIte, Nat.reduceEqDiff, reduceCtorEq]; rfl)); (case hvs => rfl))
  simp only [vm, vr, reduceIte, Nat.reduceEqDiff, reduceCtorEq]
  (refine hK _ ?_; clear hK K)
  refine c_assoc ?_
  refine c_reg fun K hK => ?_
  simp only [vm, vr, q49, c, reduceIte, Nat.reduceEqDiff, reduceCtorEq]
  (refine hK _ ?_; clear hK K)
  refine c_if _ rfl (fun hb1 => ?_) (fun hb1 => ?_) <;> (have hp1 := hb1; try simp only [] at hp1)
  cases hb1
  refine c_skip ?_
  refine c_reg fun K hK => ?_
  simp only [vm, vr]
  (refine hK _ ?_; clear hK K)
  refine c_assoc ?_
  refine c_reg fun K hK => ?_
  simp only [vm, vr]
  (refine hK _ ?_; clear hK K)
  refine c_block ?_
  refine vcode_loop (fun n : Nat => [(2, L.p (nn i)), (3, L.own 3 0), (6, L.nilS), (8, L.arr 60 0), (9, L.p (nn n))]) (fun n => [(Key.a 60, M.arr 0 3 1 ((natL (preL t i n)).map nn)), (Key.b 3, M.box 3), (Key.c 3 0, M.cell (L.p (nn t.water))), (Key.c 3 1, M.cell (L.p (nn t.air))), (Key.c 3 2, M.cell (L.p (V.sl (t.banks.map bnkV))))]) (fun n => n ≤ 2 ^ t.banks.length) (fun n => 2 ^ t.banks.length - n) 0 (Nat.zero_le _) ?_ ?_
  ·
   (simp only [vm, vmk, reduceIte, Nat.reduceEqDiff, Nat.reduceAdd, Nat.reduceLT, reduceCtorEq]; try simp (disch := omega) only [wr64]; try omega)
   exact ⟨.inr trivial, by simp [preL]⟩
  ·
   intro n hn
   rcases Nat.lt_or_ge n (2 ^ t.banks.length) with hnl | hnl
   ·
    have kl : decide ((n : Int) < ((2 ^ t.banks.length : Nat) : Int)) = true := decide_eq_true (by omega)
    have kb := sub_r (t := t) (i := i) h4 (show n < 16 by omega)
    have hol : (preL t i n).length ≤ n := by
     have h2 := List.length_filter_le (fun s => subB s (avV t i)) (List.range n)
     rw [List.length_range] at h2
     exact h2
    cases c : subB n (avV t i) with
    | true =>
     rw [c] at kb
     refine c_assoc ?_
     refine c_reg fun K hK => ?_
     simp only [vm, vr, q49, reduceIte, Nat.reduceEqDiff, Nat.reduceAdd, Nat.reduceLeDiff, reduceCtorEq]
     (apply s_call (hs48); (case hf => rfl); (case hq => (simp only [vm, reduceIte, Nat.reduceEqDiff]; rfl)); (case hvs => rfl))
     simp only [vm, vr, kl, reduceIte, Nat.reduceEqDiff]
     (refine hK _ ?_; clear hK K)
     refine c_if _ rfl (fun hb2 => ?_) (fun hb2 => ?_) <;> (have hp2 := hb2; try simp only [] at hp2)
     refine c_skip ?_
     refine c_block ?_
     refine c_reg fun K hK => ?_
     simp only [vm, vr, q49, reduceIte, Nat.reduceEqDiff, Nat.reduceAdd, Nat.reduceLeDiff, reduceCtorEq]
     (apply s_call (hs82); (case hf => rfl); (case hq => (simp only [vm, reduceIte, Nat.reduceEqDiff]; rfl)); (case hvs => rfl))
     simp only [vm, vr, kb, reduceIte, Nat.reduceEqDiff]
     (refine hK _ ?_; clear hK K)
     refine vcode_if _ rfl (fun hb3 => ?_) (fun hb3 => ?_) <;> (have hp3 := hb3; try simp only [] at hp3)
     refine c_reg1 fun K hK => ?_
     simp only [vm, vr, vp, q49, reduceIte, Nat.reduceEqDiff, Nat.reduceAdd, Nat.reduceLeDiff, Nat.reduceMul, reduceCtorEq]
     refine need_by (by first | assumption | omega | (simp; done) | (simp; omega)) ?_
     refine need_by (by first | assumption | omega | (simp; done) | (simp; omega)) ?_
     (refine hK _ ?_; clear hK K)
     simp only [thenV_n, blockV_n]
     refine c_reg1 fun K hK => ?_
     simp only [vm, vr, reduceIte, Nat.reduceEqDiff]
     (simp (disch := omega) only [wr64]; try simp only [vm, vr, vt, vp, q49, mapbnk, mapp2, kl, kb, hb1, hb2, hb3, Int.reduceBNe, Int.reduceBEq, Int.reduceLT, Int.reduceLE, Int.reduceGT, Int.reduceGE, decide_true, decide_false, bne_self_eq_false, beq_self_eq_true, reduceIte, Nat.reduceEqDiff, Nat.reduceAdd, Nat.reduceLeDiff, Nat.reduceMul, Nat.reduceLT, reduceCtorEq])
     (refine hK _ ?_; clear hK K)
     simp only [thenV_n]
     rotate_left
     cases hb3
     cases hb2
     refine ⟨n + 1, ?_, by omega, by omega⟩
     rw [preL_yes c]
     ((show Wk _ _ _; simp only [vm, vmk, reduceIte, Nat.reduceEqDiff, Nat.reduceAdd, Nat.reduceLT, reduceCtorEq]; (try simp (disch := omega) only [wr64]); try omega))
     all_goals first | (simp; done) | exact ⟨fun _ => trivial, by omega⟩ | exact ⟨by omega, by simp⟩
    | false =>
     rw [c] at kb
     refine c_assoc ?_
     refine c_reg fun K hK => ?_
     simp only [vm, vr, q49, reduceIte, Nat.reduceEqDiff, Nat.reduceAdd, Nat.reduceLeDiff, reduceCtorEq]
     (apply s_call (hs48); (case hf => rfl); (case hq => (simp only [vm, reduceIte, Nat.reduceEqDiff]; rfl)); (case hvs => rfl))
     simp only [vm, vr, kl, reduceIte, Nat.reduceEqDiff]
     (refine hK _ ?_; clear hK K)
     refine c_if _ rfl (fun hb2 => ?_) (fun hb2 => ?_) <;> (have hp2 := hb2; try simp only [] at hp2)
     refine c_skip ?_
     refine c_block ?_
     refine c_reg fun K hK => ?_
     simp only [vm, vr, q49, reduceIte, Nat.reduceEqDiff, Nat.reduceAdd, Nat.reduceLeDiff, reduceCtorEq]
     (apply s_call (hs82); (case hf => rfl); (case hq => (simp only [vm, reduceIte, Nat.reduceEqDiff]; rfl)); (case hvs => rfl))
     simp only [vm, vr, kb, reduceIte, Nat.reduceEqDiff]
     (refine hK _ ?_; clear hK K)
     refine vcode_if _ rfl (fun hb3 => ?_) (fun hb3 => ?_) <;> (have hp3 := hb3; try simp only [] at hp3)
     cases hb3
     refine c_skip1 ?_
     simp only [thenV_n, blockV_n]
     refine c_reg1 fun K hK => ?_
     simp only [vm, vr, reduceIte, Nat.reduceEqDiff]
     (simp (disch := omega) only [wr64]; try simp only [vm, vr, vt, vp, q49, mapbnk, mapp2, kl, kb, hb1, hb2, hb3, Int.reduceBNe, Int.reduceBEq, Int.reduceLT, Int.reduceLE, Int.reduceGT, Int.reduceGE, decide_true, decide_false, bne_self_eq_false, beq_self_eq_true, reduceIte, Nat.reduceEqDiff, Nat.reduceAdd, Nat.reduceLeDiff, Nat.reduceMul, Nat.reduceLT, reduceCtorEq])
     (refine hK _ ?_; clear hK K)
     simp only [thenV_n]
     rotate_left
     cases hb2
     refine ⟨n + 1, ?_, by omega, by omega⟩
     rw [preL_no c]
     ((show Wk _ _ _; simp only [vm, vmk, reduceIte, Nat.reduceEqDiff, Nat.reduceAdd, Nat.reduceLT, reduceCtorEq]; (try simp (disch := omega) only [wr64]); try omega))
     all_goals first | (simp; done) | omega | exact ⟨by omega, by simp⟩
   ·
    have kl : decide ((n : Int) < ((2 ^ t.banks.length : Nat) : Int)) = false := decide_eq_false (by omega)
    obtain rfl : n = 2 ^ t.banks.length := by omega
    refine c_assoc ?_
    refine c_reg fun K hK => ?_
    simp only [vm, vr, q49, reduceIte, Nat.reduceEqDiff, Nat.reduceAdd, Nat.reduceLeDiff, reduceCtorEq]
    (apply s_call (hs48); (case hf => rfl); (case hq => (simp only [vm, reduceIte, Nat.reduceEqDiff]; rfl)); (case hvs => rfl))
    simp only [vm, vr, kl, reduceIte, Nat.reduceEqDiff]
    (refine hK _ ?_; clear hK K)
    refine c_if _ rfl (fun hb2 => ?_) (fun hb2 => ?_) <;> (have hp2 := hb2; try simp only [] at hp2)
    cases hb2
    refine c_exit ?_
    simp only [thenV_n, thenV_e, blockV_e, reduceIte]
    refine c_reg fun K hK => ?_
    simp only [vm, vr, reduceIte, Nat.reduceEqDiff]
    (refine hK _ ?_; clear hK K)
    refine c_ret1 ?_
    simp only [vm, vr, reduceIte, Nat.reduceEqDiff, reduceCtorEq]
end Go.Vm
