import Derived.Test.YtoefpbjabpaeaaaGreatDoorVmBC
import Derived.Test.YtoefpbjabpaeaaaGreatDoorWcFa
import Derived.Test.YtoefpbjabpaeaaaGreatDoorWcFd
import Derived.Test.YtoefpbjabpaeaaaGreatDoorWcFg
set_option linter.all false
namespace Go.Vm
open Go.Proofs
set_option maxRecDepth 20000
set_option maxHeartbeats 8000000
--DEF TAB = nn t.water; nn t.air; V.sl (t.banks.map bnkV)
--DEF TAC = nn t.water, nn t.air, .sl (t.banks.map bnkV)
--DEF STP = nn t.water; nn t.air; V.sl (t.banks.map bnkV); V.sl (x.ents.map p2); V.sl (x.tars.map p2)
--DEF MEA = V.sl (S.map nn); V.sl (X.map p2)
--DEF W = q8
/-! sets with faults, their errors (the program's) -/
theorem odd_any (t : CTab) (l : List Int) (hl : l.length < 1000000) (h4 : t.banks.length ≤ 4) : Sp0 37 [.sl (l.map nn), .fn 38 [] [.ref [nn t.water, nn t.air, .sl (t.banks.map bnkV)]]] (R.v (.b (l.any fun n => setE t n != 0))) :=
 spec37g l _ _ _ _ hl ⟨rfl, rfl⟩ fun i hi => spec38 t _ h4
theorem aga_any (F : Flt) (i : Nat) (f : Int) (o : Bool) (hl : F.length < 1000000) : Sp0 41 [.sl ((F.take i).map fV), .fn 42 [] [.ref [nn f, .b o]]] (R.v (.b ((F.take i).any fun g => g.1 == f))) :=
 spec41g (F.take i) _ _ _ _ (by rw [List.length_take]; omega) ⟨rfl, rfl⟩ fun j hj => spec42 _ _ _ _
def wfE (t : CTab) (l : List Int) (F : Flt) : Int := if (tabE t).2 ≠ 0 then (tabE t).2 else if pleE t l ≠ 0 then pleE t l else fesE t F
theorem wf_cnt (t : CTab) (l : List Int) (F : Flt) (hb : t.banks.length < 1000000) (hl : l.length < 1000000) (h : firstV [(tabE t).2, cntE l.length] ≠ 0) : Sp0 8 [ctV t, .sl (l.map nn), fsV F] (R.v2 (.sl []) (nn (firstV [(tabE t).2, cntE l.length]))) := by
 have k : (firstV [(tabE t).2, cntE l.length] != 0) = true := bne_iff_ne.2 h
 refine spec_of mixed (fun _ _ _ h => h) Tryz.func8 (by decide +kernel) rfl (rs := _) rfl (by rfl) rfl (by simp [Tryz.f8]) (by decide +kernel) ?_; simp only [argsG, Nat.zero_add, Nat.reduceAdd]
 refine c_reg fun K hK => ?_
 simp only [vm, vr, reduceIte, Nat.reduceAdd, reduceCtorEq]
 refine need_by (by first | assumption | omega | (simp; done) | (simp; omega)) ?_
 (refine hK _ ?_; clear hK K)
 refine c_assoc ?_
 refine c_reg fun K hK => ?_
 simp only [vm, vr, q8, reduceIte, Nat.reduceEqDiff, Nat.reduceAdd, Nat.reduceLeDiff, reduceCtorEq]
 (apply s_call (spec35 _ ?s2501x1); (case hf => rfl); (case hq => (simp only [vm, reduceIte, Nat.reduceEqDiff, reduceCtorEq]; rfl)); (case hvs => rfl); (case s2501x1 => first | assumption | omega | (simp; done) | (simp; omega)))
 simp only [vm, vr, q8, reduceIte, Nat.reduceEqDiff, reduceCtorEq]
 (apply s_call (spec36 _); (case hf => rfl); (case hq => (simp only [vm, reduceIte, Nat.reduceEqDiff, reduceCtorEq]; rfl)); (case hvs => rfl))
 simp only [vm, vr, q8, reduceIte, Nat.reduceEqDiff, Nat.reduceAdd, Nat.reduceLeDiff, Nat.reduceMul, reduceCtorEq]
 refine need_by (by first | assumption | omega | (simp; done) | (simp; omega)) ?_
 (apply s_call (spec34w2 _ _); (case hf => rfl); (case hq => (simp only [vm, reduceIte, Nat.reduceEqDiff, reduceCtorEq]; rfl)); (case hvs => rfl))
 simp only [vm, vr, reduceIte, Nat.reduceEqDiff, reduceCtorEq]
 (refine hK _ ?_; clear hK K)
 refine c_assoc ?_
 refine c_reg fun K hK => ?_
 simp only [vm, vr, k, reduceIte, Nat.reduceEqDiff, reduceCtorEq]
 (refine hK _ ?_; clear hK K)
 refine c_if _ rfl (fun hb1 => ?_) (fun hb1 => ?_) <;> (have hp1 := hb1; try simp only [] at hp1)
 refine c_assoc ?_
 refine c_reg fun K hK => ?_
 simp only [vm, vr, reduceIte, Nat.reduceEqDiff, reduceCtorEq]
 (refine hK _ ?_; clear hK K)
 refine c_ret ?_
 simp only [vm, vr, reduceIte, Nat.reduceEqDiff, reduceCtorEq]
 cases hb1
theorem wf_odd (t : CTab) (l : List Int) (F : Flt) (ht : TabOk t) (hl : 1 ≤ l.length ∧ l.length ≤ 12) (h : (l.any fun n => setE t n != 0) = true) : Sp0 8 [ctV t, .sl (l.map nn), fsV F] (R.v2 (.sl []) (nn 2)) := by
 have h4 := ht.len
 have kc : cntE l.length = 0 := by unfold cntE; rw [decide_eq_true (by omega), decide_eq_true (by omega)]; rfl
 have k0 := tab_zero ht
 have k : firstV [0, 0] = 0 := rfl
 have hs37 := odd_any t l (by omega) h4.2
 rw [h] at hs37
 have k2 : firstV [2, if decide ((F.length : Int) ≤ 4) = true then 0 else 8] = 2 := first_cons1 (by decide)
 refine spec_of mixed (fun _ _ _ h => h) Tryz.func8 (by decide +kernel) rfl (rs := _) rfl (by rfl) rfl (by simp [Tryz.f8]) (by decide +kernel) ?_; simp only [argsG, Nat.zero_add, Nat.reduceAdd]
 refine c_reg fun K hK => ?_
 simp only [vm, vr, reduceIte, Nat.reduceAdd, reduceCtorEq]
 refine need_by (by first | assumption | omega | (simp; done) | (simp; omega)) ?_
 (refine hK _ ?_; clear hK K)
 refine c_assoc ?_
 refine c_reg fun K hK => ?_
 simp only [vm, vr, q8, reduceIte, Nat.reduceEqDiff, Nat.reduceAdd, Nat.reduceLeDiff, reduceCtorEq]
 (apply s_call (spec35 _ ?s3501x1); (case hf => rfl); (case hq => (simp only [vm, reduceIte, Nat.reduceEqDiff, reduceCtorEq]; rfl)); (case hvs => rfl); (case s3501x1 => first | assumption | omega | (simp; done) | (simp; omega)))
 simp only [vm, vr, q8, k0, reduceIte, Nat.reduceEqDiff, reduceCtorEq]
 (apply s_call (spec36 _); (case hf => rfl); (case hq => (simp only [vm, reduceIte, Nat.reduceEqDiff, reduceCtorEq]; rfl)); (case hvs => rfl))
 simp only [vm, vr, q8, kc, reduceIte, Nat.reduceEqDiff, Nat.reduceAdd, Nat.reduceLeDiff, Nat.reduceMul, reduceCtorEq]
 refine need_by (by first | assumption | omega | (simp; done) | (simp; omega)) ?_
 (apply s_call (spec34w2 _ _); (case hf => rfl); (case hq => (simp only [vm, reduceIte, Nat.reduceEqDiff, reduceCtorEq]; rfl)); (case hvs => rfl))
 simp only [vm, vr, k, reduceIte, Nat.reduceEqDiff, reduceCtorEq]
 (refine hK _ ?_; clear hK K)
 refine c_assoc ?_
 refine c_reg fun K hK => ?_
 simp only [vm, vr, bne_self_eq_false, reduceIte, Nat.reduceEqDiff, reduceCtorEq]
 (refine hK _ ?_; clear hK K)
 refine c_if _ rfl (fun hb1 => ?_) (fun hb1 => ?_) <;> (have hp1 := hb1; try simp only [] at hp1)
 cases hb1
 refine c_skip ?_
 refine c_reg fun K hK => ?_
 simp only [vm, vr, reduceIte, Nat.reduceEqDiff, Nat.reduceAdd, reduceCtorEq]
 (apply s_call (hs37); (case hf => rfl); (case hq => (simp only [vm, reduceIte, Nat.reduceEqDiff, reduceCtorEq]; rfl)); (case hvs => rfl))
 simp only [vm, vr, reduceIte, Nat.reduceEqDiff, reduceCtorEq]
 (refine hK _ ?_; clear hK K)
 refine c_assoc ?_
 refine c_reg fun K hK => ?_
 simp only [vm, vr, reduceIte, Nat.reduceEqDiff, reduceCtorEq]
 (apply s_call (spec40 _ _); (case hf => rfl); (case hq => (simp only [vm, reduceIte, Nat.reduceEqDiff, reduceCtorEq]; rfl)); (case hvs => rfl))
 simp only [vm, vr, q8, reduceIte, Nat.reduceEqDiff, reduceCtorEq]
 (apply s_call (spec40 _ _); (case hf => rfl); (case hq => (simp only [vm, reduceIte, Nat.reduceEqDiff, reduceCtorEq]; rfl)); (case hvs => rfl))
 simp only [vm, vr, q8, reduceIte, Nat.reduceEqDiff, Nat.reduceAdd, Nat.reduceLeDiff, Nat.reduceMul, reduceCtorEq]
 refine need_by (by first | assumption | omega | (simp; done) | (simp; omega)) ?_
 (apply s_call (spec34w2 _ _); (case hf => rfl); (case hq => (simp only [vm, reduceIte, Nat.reduceEqDiff, reduceCtorEq]; rfl)); (case hvs => rfl))
 simp only [vm, vr, k2, reduceIte, Nat.reduceEqDiff, reduceCtorEq]
 (refine hK _ ?_; clear hK K)
 refine c_assoc ?_
 refine c_reg fun K hK => ?_
 simp only [vm, vr, Int.reduceBNe, reduceIte, Nat.reduceEqDiff, reduceCtorEq]
 (refine hK _ ?_; clear hK K)
 refine c_if _ rfl (fun hb2 => ?_) (fun hb2 => ?_) <;> (have hp2 := hb2; try simp only [] at hp2)
 refine c_assoc ?_
 refine c_reg fun K hK => ?_
 simp only [vm, vr, reduceIte, Nat.reduceEqDiff, reduceCtorEq]
 (refine hK _ ?_; clear hK K)
 refine c_ret ?_
 simp only [vm, vr, reduceIte, Nat.reduceEqDiff, reduceCtorEq]
 cases hb2
theorem wf_big (t : CTab) (l : List Int) (F : Flt) (ht : TabOk t) (hl : 1 ≤ l.length ∧ l.length ≤ 12) (h : (l.any fun n => setE t n != 0) = false) (hF : F.length > 4) : Sp0 8 [ctV t, .sl (l.map nn), fsV F] (R.v2 (.sl []) (nn 8)) := by
 have h4 := ht.len
 have kc : cntE l.length = 0 := by unfold cntE; rw [decide_eq_true (by omega), decide_eq_true (by omega)]; rfl
 have k0 := tab_zero ht
 have k : firstV [0, 0] = 0 := rfl
 have kf : decide ((F.length : Int) ≤ 4) = false := decide_eq_false (by omega)
 have hs37 := odd_any t l (by omega) h4.2
 rw [h] at hs37
 have k8 : firstV [0, 8] = 8 := rfl
 refine spec_of mixed (fun _ _ _ h => h) Tryz.func8 (by decide +kernel) rfl (rs := _) rfl (by rfl) rfl (by simp [Tryz.f8]) (by decide +kernel) ?_; simp only [argsG, Nat.zero_add, Nat.reduceAdd]
 refine c_reg fun K hK => ?_
 simp only [vm, vr, reduceIte, Nat.reduceAdd, reduceCtorEq]
 refine need_by (by first | assumption | omega | (simp; done) | (simp; omega)) ?_
 (refine hK _ ?_; clear hK K)
 refine c_assoc ?_
 refine c_reg fun K hK => ?_
 simp only [vm, vr, q8, reduceIte, Nat.reduceEqDiff, Nat.reduceAdd, Nat.reduceLeDiff, reduceCtorEq]
 (apply s_call (spec35 _ ?s4601x1); (case hf => rfl); (case hq => (simp only [vm, reduceIte, Nat.reduceEqDiff, reduceCtorEq]; rfl)); (case hvs => rfl); (case s4601x1 => first | assumption | omega | (simp; done) | (simp; omega)))
 simp only [vm, vr, q8, k0, reduceIte, Nat.reduceEqDiff, reduceCtorEq]
 (apply s_call (spec36 _); (case hf => rfl); (case hq => (simp only [vm, reduceIte, Nat.reduceEqDiff, reduceCtorEq]; rfl)); (case hvs => rfl))
 simp only [vm, vr, q8, kc, reduceIte, Nat.reduceEqDiff, Nat.reduceAdd, Nat.reduceLeDiff, Nat.reduceMul, reduceCtorEq]
 refine need_by (by first | assumption | omega | (simp; done) | (simp; omega)) ?_
 (apply s_call (spec34w2 _ _); (case hf => rfl); (case hq => (simp only [vm, reduceIte, Nat.reduceEqDiff, reduceCtorEq]; rfl)); (case hvs => rfl))
 simp only [vm, vr, k, reduceIte, Nat.reduceEqDiff, reduceCtorEq]
 (refine hK _ ?_; clear hK K)
 refine c_assoc ?_
 refine c_reg fun K hK => ?_
 simp only [vm, vr, bne_self_eq_false, reduceIte, Nat.reduceEqDiff, reduceCtorEq]
 (refine hK _ ?_; clear hK K)
 refine c_if _ rfl (fun hb1 => ?_) (fun hb1 => ?_) <;> (have hp1 := hb1; try simp only [] at hp1)
 cases hb1
 refine c_skip ?_
 refine c_reg fun K hK => ?_
 simp only [vm, vr, reduceIte, Nat.reduceEqDiff, Nat.reduceAdd, reduceCtorEq]
 (apply s_call (hs37); (case hf => rfl); (case hq => (simp only [vm, reduceIte, Nat.reduceEqDiff, reduceCtorEq]; rfl)); (case hvs => rfl))
 simp only [vm, vr, reduceIte, Nat.reduceEqDiff, reduceCtorEq]
 (refine hK _ ?_; clear hK K)
 refine c_assoc ?_
 refine c_reg fun K hK => ?_
 simp only [vm, vr, reduceIte, Nat.reduceEqDiff, reduceCtorEq]
 (apply s_call (spec40 _ _); (case hf => rfl); (case hq => (simp only [vm, reduceIte, Nat.reduceEqDiff, reduceCtorEq]; rfl)); (case hvs => rfl))
 simp only [vm, vr, q8, kf, reduceIte, Nat.reduceEqDiff, reduceCtorEq]
 (apply s_call (spec40 _ _); (case hf => rfl); (case hq => (simp only [vm, reduceIte, Nat.reduceEqDiff, reduceCtorEq]; rfl)); (case hvs => rfl))
 simp only [vm, vr, q8, reduceIte, Nat.reduceEqDiff, Nat.reduceAdd, Nat.reduceLeDiff, Nat.reduceMul, reduceCtorEq]
 refine need_by (by first | assumption | omega | (simp; done) | (simp; omega)) ?_
 (apply s_call (spec34w2 _ _); (case hf => rfl); (case hq => (simp only [vm, reduceIte, Nat.reduceEqDiff, reduceCtorEq]; rfl)); (case hvs => rfl))
 simp only [vm, vr, k8, reduceIte, Nat.reduceEqDiff, reduceCtorEq]
 (refine hK _ ?_; clear hK K)
 refine c_assoc ?_
 refine c_reg fun K hK => ?_
 simp only [vm, vr, Int.reduceBNe, reduceIte, Nat.reduceEqDiff, reduceCtorEq]
 (refine hK _ ?_; clear hK K)
 refine c_if _ rfl (fun hb2 => ?_) (fun hb2 => ?_) <;> (have hp2 := hb2; try simp only [] at hp2)
 refine c_assoc ?_
 refine c_reg fun K hK => ?_
 simp only [vm, vr, reduceIte, Nat.reduceEqDiff, reduceCtorEq]
 (refine hK _ ?_; clear hK K)
 refine c_ret ?_
 simp only [vm, vr, reduceIte, Nat.reduceEqDiff, reduceCtorEq]
 cases hb2
theorem wf_main (t : CTab) (l : List Int) (F : Flt) (ht : TabOk t) (hl : 1 ≤ l.length ∧ l.length ≤ 12) (h : (l.any fun n => setE t n != 0) = false) (hF : F.length ≤ 4) : Sp0 8 [ctV t, .sl (l.map nn), fsV F] (if scanI (fonE t F) 0 F = 0 then R.v2 (.sl ((witL l F l.length).map nn)) (nn 0) else R.v2 (.sl []) (nn (scanI (fonE t F) 0 F))) := by
 have h4 := ht.len
 have kc : cntE l.length = 0 := by unfold cntE; rw [decide_eq_true (by omega), decide_eq_true (by omega)]; rfl
 have k0 := tab_zero ht
 have k : firstV [0, 0] = 0 := rfl
 have kf : decide ((F.length : Int) ≤ 4) = true := decide_eq_true (by omega)
 have hs37 := odd_any t l (by omega) h4.2
 rw [h] at hs37
 by_cases z : scanI (fonE t F) 0 F = 0
 ·
  rw [if_pos z]
  refine spec_of mixed (fun _ _ _ h => h) Tryz.func8 (by decide +kernel) rfl (rs := _) rfl (by rfl) rfl (by simp [Tryz.f8]) (by decide +kernel) ?_; simp only [argsG, Nat.zero_add, Nat.reduceAdd]
  refine c_reg fun K hK => ?_
  simp only [vm, vr, reduceIte, Nat.reduceAdd, reduceCtorEq]
  refine need_by (by first | assumption | omega | (simp; done) | (simp; omega)) ?_
  (refine hK _ ?_; clear hK K)
  refine c_assoc ?_
  refine c_reg fun K hK => ?_
  simp only [vm, vr, q8, reduceIte, Nat.reduceEqDiff, Nat.reduceAdd, Nat.reduceLeDiff, reduceCtorEq]
  (apply s_call (spec35 _ ?s5801x1); (case hf => rfl); (case hq => (simp only [vm, reduceIte, Nat.reduceEqDiff, reduceCtorEq]; rfl)); (case hvs => rfl); (case s5801x1 => first | assumption | omega | (simp; done) | (simp; omega)))
  simp only [vm, vr, q8, k0, reduceIte, Nat.reduceEqDiff, reduceCtorEq]
  (apply s_call (spec36 _); (case hf => rfl); (case hq => (simp only [vm, reduceIte, Nat.reduceEqDiff, reduceCtorEq]; rfl)); (case hvs => rfl))
  simp only [vm, vr, q8, kc, reduceIte, Nat.reduceEqDiff, Nat.reduceAdd, Nat.reduceLeDiff, Nat.reduceMul, reduceCtorEq]
  refine need_by (by first | assumption | omega | (simp; done) | (simp; omega)) ?_
  (apply s_call (spec34w2 _ _); (case hf => rfl); (case hq => (simp only [vm, reduceIte, Nat.reduceEqDiff, reduceCtorEq]; rfl)); (case hvs => rfl))
  simp only [vm, vr, k, reduceIte, Nat.reduceEqDiff, reduceCtorEq]
  (refine hK _ ?_; clear hK K)
  refine c_assoc ?_
  refine c_reg fun K hK => ?_
  simp only [vm, vr, bne_self_eq_false, reduceIte, Nat.reduceEqDiff, reduceCtorEq]
  (refine hK _ ?_; clear hK K)
  refine c_if _ rfl (fun hb1 => ?_) (fun hb1 => ?_) <;> (have hp1 := hb1; try simp only [] at hp1)
  cases hb1
  refine c_skip ?_
  refine c_reg fun K hK => ?_
  simp only [vm, vr, reduceIte, Nat.reduceEqDiff, Nat.reduceAdd, reduceCtorEq]
  (apply s_call (hs37); (case hf => rfl); (case hq => (simp only [vm, reduceIte, Nat.reduceEqDiff, reduceCtorEq]; rfl)); (case hvs => rfl))
  simp only [vm, vr, reduceIte, Nat.reduceEqDiff, reduceCtorEq]
  (refine hK _ ?_; clear hK K)
  refine c_assoc ?_
  refine c_reg fun K hK => ?_
  simp only [vm, vr, reduceIte, Nat.reduceEqDiff, reduceCtorEq]
  (apply s_call (spec40 _ _); (case hf => rfl); (case hq => (simp only [vm, reduceIte, Nat.reduceEqDiff, reduceCtorEq]; rfl)); (case hvs => rfl))
  simp only [vm, vr, q8, kf, reduceIte, Nat.reduceEqDiff, reduceCtorEq]
  (apply s_call (spec40 _ _); (case hf => rfl); (case hq => (simp only [vm, reduceIte, Nat.reduceEqDiff, reduceCtorEq]; rfl)); (case hvs => rfl))
  simp only [vm, vr, q8, reduceIte, Nat.reduceEqDiff, Nat.reduceAdd, Nat.reduceLeDiff, Nat.reduceMul, reduceCtorEq]
  refine need_by (by first | assumption | omega | (simp; done) | (simp; omega)) ?_
  (apply s_call (spec34w2 _ _); (case hf => rfl); (case hq => (simp only [vm, reduceIte, Nat.reduceEqDiff, reduceCtorEq]; rfl)); (case hvs => rfl))
  simp only [vm, vr, k, reduceIte, Nat.reduceEqDiff, reduceCtorEq]
  (refine hK _ ?_; clear hK K)
  refine c_assoc ?_
  refine c_reg fun K hK => ?_
  simp only [vm, vr, bne_self_eq_false, reduceIte, Nat.reduceEqDiff, reduceCtorEq]
  (refine hK _ ?_; clear hK K)
  refine c_if _ rfl (fun hb2 => ?_) (fun hb2 => ?_) <;> (have hp2 := hb2; try simp only [] at hp2)
  cases hb2
  refine c_skip ?_
  refine c_assoc ?_
  refine c_reg fun K hK => ?_
  simp only [vm, vr, q8, reduceIte, Nat.reduceEqDiff, reduceCtorEq]
  (refine hK _ ?_; clear hK K)
  refine c_block ?_
  refine vcode_loop (fun i : Nat => [(1, L.p (V.sl (List.map nn l))), (2, L.p (fsV F)), (3, L.own 3 0), (6, L.nilS), (7, L.p (nn 0)), (43, L.p (fsV F)), (44, L.p (nn F.length)), (45, L.p (nn i))]) (fun _ => [(Key.f 3, M.frz), (Key.b 3, M.box 3), (Key.c 3 0, M.cell (L.p (nn t.water))), (Key.c 3 1, M.cell (L.p (nn t.air))), (Key.c 3 2, M.cell (L.p (V.sl (t.banks.map bnkV))))]) (fun i => i ≤ F.length) (fun i => F.length - i) 0 (Nat.zero_le _) ?_ ?_
  ·
   simp only [vm, vmk, reduceIte, Nat.reduceEqDiff, Nat.reduceAdd, Nat.reduceLT, reduceCtorEq]
  ·
   intro i hi
   rcases Nat.lt_or_ge i F.length with hil | hil
   ·
    have kl : decide ((i : Int) < (F.length : Int)) = true := decide_eq_true (by omega)
    have w1 : IntKind.wrap .i64 ((t.banks.length : Int) - 1) = (t.banks.length : Int) - 1 := wr64 (by omega) (by omega)
    have hs41 := aga_any F i (F.getD i default).1 (F.getD i default).2 (by omega)
    have e0 := scanI_zero z i hil default
    rw [Nat.zero_add] at e0
    have e1 := fonE_ok e0
    have w : withinV (F.getD i default).1 0 ((t.banks.length : Int) - 1) = true := wi2.2 ⟨by omega, by omega⟩
    rw [e1.2] at hs41
    refine c_reg fun K hK => ?_
    simp only [vm, vr, kl, reduceIte, Nat.reduceEqDiff]
    (refine hK _ ?_; clear hK K)
    refine c_if _ rfl (fun hb3 => ?_) (fun hb3 => ?_) <;> (have hp3 := hb3; try simp only [] at hp3)
    refine c_skip ?_
    refine c_block ?_
    refine c_reg fun K hK => ?_
    simp only [vm, vr, q8, reduceIte, Nat.reduceEqDiff, Nat.reduceAdd, Nat.reduceLeDiff, reduceCtorEq]
    (refine atI_map default (by first | assumption | omega | (simp; done) | (simp; omega)) (by first | assumption | omega | (simp; done) | (simp; omega)) ?_; simp only [vm, vr, q8, reduceIte, Nat.reduceEqDiff, Nat.reduceAdd, reduceCtorEq])
    refine need_by (by first | assumption | omega | (simp; done) | (simp; omega)) ?_
    (refine hK _ ?_; clear hK K)
    refine c_reg fun K hK => ?_
    simp only [vm, vr, vp, q8, mapf, ← List.map_take, Int.reduceLE, reduceIte, Nat.reduceEqDiff, Nat.reduceAdd, reduceCtorEq]
    refine need_by (by first | assumption | omega | (simp; done) | (simp; omega)) ?_
    (apply s_call (hs41); (case hf => rfl); (case hq => (simp only [vm, reduceIte, Nat.reduceEqDiff]; rfl)); (case hvs => rfl))
    simp only [vm, vr, reduceIte, Nat.reduceEqDiff]
    (refine hK _ ?_; clear hK K)
    refine c_reg fun K hK => ?_
    simp only [vm, vr, q8, w1, reduceIte, Nat.reduceEqDiff, Nat.reduceAdd, Nat.reduceLeDiff, reduceCtorEq]
    (apply s_call (spec43 _ _ _); (case hf => rfl); (case hq => (simp only [vm, reduceIte, Nat.reduceEqDiff]; rfl)); (case hvs => rfl))
    (apply s_call (spec40 _ _); (case hf => rfl); (case hq => (simp only [vm, vr, w, reduceIte, Nat.reduceEqDiff]; rfl)); (case hvs => rfl))
    simp only [vm, vr, w, reduceIte, Nat.reduceEqDiff]
    (apply s_call (spec40 _ _); (case hf => rfl); (case hq => (simp only [vm, reduceIte, Nat.reduceEqDiff]; rfl)); (case hvs => rfl))
    simp only [vm, vr, q8, reduceIte, Nat.reduceEqDiff, Nat.reduceAdd, Nat.reduceLeDiff, Nat.reduceMul, reduceCtorEq]
    refine need_by (by first | assumption | omega | (simp; done) | (simp; omega)) ?_
    (apply s_call (spec34w2 _ _); (case hf => rfl); (case hq => (simp only [vm, reduceIte, Nat.reduceEqDiff, reduceCtorEq]; rfl)); (case hvs => rfl))
    simp only [vm, vr, k, reduceIte, Nat.reduceEqDiff]
    (refine hK _ ?_; clear hK K)
    refine c_reg fun K hK => ?_
    simp only [vm, vr, bne_self_eq_false, reduceIte, Nat.reduceEqDiff]
    (refine hK _ ?_; clear hK K)
    refine vcode_if _ rfl (fun hb4 => ?_) (fun hb4 => ?_) <;> (have hp4 := hb4; try simp only [] at hp4)
    cases hb4
    refine c_skip1 ?_
    simp only [thenV_n, blockV_n]
    refine c_reg1 fun K hK => ?_
    simp only [vm, vr, reduceIte, Nat.reduceEqDiff]
    (simp (disch := omega) only [wr64]; try simp only [vm, vr, vt, vp, q8, mapbnk, mapf, kl, w1, w, k, ← List.map_take, hb1, hb2, hb3, hb4, Int.reduceBNe, Int.reduceBEq, Int.reduceLT, Int.reduceLE, Int.reduceGT, Int.reduceGE, decide_true, decide_false, bne_self_eq_false, beq_self_eq_true, reduceIte, Nat.reduceEqDiff, Nat.reduceAdd, Nat.reduceLeDiff, Nat.reduceMul, Nat.reduceLT, reduceCtorEq])
    (refine hK _ ?_; clear hK K)
    simp only [thenV_n]
    rotate_left
    cases hb3
    refine ⟨i + 1, ?_, by omega, by omega⟩
    ((show Wk _ _ _; simp only [vm, vmk, reduceIte, Nat.reduceEqDiff, Nat.reduceAdd, Nat.reduceLT, reduceCtorEq]; (try simp (disch := omega) only [wr64]); try omega))
   ·
    have kl : decide ((i : Int) < (F.length : Int)) = false := decide_eq_false (by omega)
    have hso : ∀ j, j < l.length → ∃ s : Nat, l.getD j 0 = (s : Int) ∧ s < 2 ^ t.banks.length := fun j hj => by
     have := List.any_eq_false.1 h (l.getD j 0) (getD_memC (l := l) (i := j) hj)
     obtain ⟨s, e, s1, _⟩ := set_ok (t := t) (n := l.getD j 0) ht (by simpa using this)
     exact ⟨s, e, s1⟩
    have hin : inF t.banks.length F := fun f hf => by
     obtain ⟨i, hi, rfl⟩ := List.getElem_of_mem hf
     have e0 := scanI_zero z i hi default
     rw [Nat.zero_add] at e0
     have e1 := (fonE_ok e0).1
     rwa [show F.getD i default = F[i] by simp [List.getD, hi]] at e1
    refine c_reg fun K hK => ?_
    simp only [vm, vr, kl, reduceIte, Nat.reduceEqDiff]
    (refine hK _ ?_; clear hK K)
    refine c_if _ rfl (fun hb3 => ?_) (fun hb3 => ?_) <;> (have hp3 := hb3; try simp only [] at hp3)
    cases hb3
    refine c_exit ?_
    simp only [thenV_n, thenV_e, blockV_e, reduceIte]
    refine c_reg fun K hK => ?_
    simp only [vm, vr]
    (refine hK _ ?_; clear hK K)
    refine c_assoc ?_
    refine c_reg fun K hK => ?_
    simp only [vm, vr, q8, reduceIte, Nat.reduceEqDiff]
    (refine hK _ ?_; clear hK K)
    refine c_block ?_
    refine vcode_loop (fun i : Nat => [(2, L.p (fsV F)), (6, L.nilS), (7, L.p (nn 0)), (15, L.arr 60 0), (72, L.p (V.sl (List.map nn l))), (73, L.p (nn l.length)), (74, L.p (nn i))]) (fun i => [(Key.a 60, M.arr 0 3 1 ((witL l F i).map nn))]) (fun i => i ≤ l.length) (fun i => l.length - i) 0 (Nat.zero_le _) ?_ ?_
    ·
     (simp only [vm, vmk, reduceIte, Nat.reduceEqDiff, reduceCtorEq]; try simp (disch := omega) only [wr64]; try omega)
     all_goals (repeat' first | exact ⟨_, rfl⟩ | exact Or.inr trivial | omega | (simp [witL]; done) | rfl | apply And.intro)
    ·
     intro i hi
     have hwl := witL_len (S := l) (F := F) (n := i)
     rcases Nat.lt_or_ge i l.length with hil | hil
     ·
      have kl : decide ((i : Int) < (l.length : Int)) = true := decide_eq_true (by omega)
      obtain ⟨s, es, s1⟩ := hso i hil
      have h16 := pw16 h4.2
      have hlt := fltS_lt s1 hin
      have wS : IntKind.wrap .u64 (s : Int) = (s : Int) := wrU (by omega) (by omega)
      have wI : IntKind.wrap .i64 ((fltS s F : Nat) : Int) = ((fltS s F : Nat) : Int) := wr64 (by omega) (by omega)
      have hs44 := spec44 s F t.banks.length h4.2 s1 hin (by omega)
      have hsu : witL l F (i + 1) = witL l F i ++ [((fltS s F : Nat) : Int)] := by rw [witL_succ, es, Int.toNat_natCast]
      refine c_reg fun K hK => ?_
      simp only [vm, vr, kl, reduceIte, Nat.reduceEqDiff]
      (refine hK _ ?_; clear hK K)
      refine c_if _ rfl (fun hb4 => ?_) (fun hb4 => ?_) <;> (have hp4 := hb4; try simp only [] at hp4)
      refine c_skip ?_
      refine c_block ?_
      refine c_reg fun K hK => ?_
      simp only [vm, vr, q8, reduceIte, Nat.reduceEqDiff]
      (refine atI_map 0 (by first | assumption | omega | (simp; done) | (simp; omega)) (by first | assumption | omega | (simp; done) | (simp; omega)) ?_; simp only [vm, vr, q8, es])
      (refine hK _ ?_; clear hK K)
      refine c_reg1 fun K hK => ?_
      simp only [vm, vr, wS, cvis, reduceIte, Nat.reduceEqDiff]
      (apply s_call (hs44); (case hf => rfl); (case hq => (simp only [vm, reduceIte, Nat.reduceEqDiff]; rfl)); (case hvs => rfl))
      simp only [vm, vr, vp, q8, wI, cvsi, reduceIte, Nat.reduceEqDiff, Nat.reduceAdd, Nat.reduceLeDiff, Nat.reduceMul, reduceCtorEq]
      refine need_by (by first | assumption | omega | (simp; done) | (simp; omega)) ?_
      refine need_by (by first | assumption | omega | (simp; done) | (simp; omega)) ?_
      (refine hK _ ?_; clear hK K)
      simp only [thenV_n, blockV_n]
      refine c_reg1 fun K hK => ?_
      simp only [vm, vr, reduceIte, Nat.reduceEqDiff]
      (simp (disch := omega) only [wr64]; try simp only [vm, vr, vt, vp, q8, mapbnk, mapf, kl, es, wS, wI, cvis, cvsi, hb1, hb2, hb3, hb4, Int.reduceBNe, Int.reduceBEq, Int.reduceLT, Int.reduceLE, Int.reduceGT, Int.reduceGE, decide_true, decide_false, bne_self_eq_false, beq_self_eq_true, reduceIte, Nat.reduceEqDiff, Nat.reduceAdd, Nat.reduceLeDiff, Nat.reduceMul, Nat.reduceLT, reduceCtorEq])
      (refine hK _ ?_; clear hK K)
      simp only [thenV_n]
      rotate_left
      cases hb4
      refine ⟨i + 1, ?_, by omega, by omega⟩
      rw [hsu]
      ((show Wk _ _ _; simp only [vm, vmk, reduceIte, Nat.reduceEqDiff, reduceCtorEq]; (try simp (disch := omega) only [wr64]); try omega))
      all_goals (repeat' first | exact ⟨_, rfl⟩ | exact Or.inr trivial | omega | (simp; done) | rfl | apply And.intro)
     ·
      have kl : decide ((i : Int) < (l.length : Int)) = false := decide_eq_false (by omega)
      obtain rfl : i = l.length := by omega
      refine c_reg fun K hK => ?_
      simp only [vm, vr, kl, reduceIte, Nat.reduceEqDiff]
      (refine hK _ ?_; clear hK K)
      refine c_if _ rfl (fun hb4 => ?_) (fun hb4 => ?_) <;> (have hp4 := hb4; try simp only [] at hp4)
      cases hb4
      refine c_exit ?_
      simp only [thenV_n, thenV_e, blockV_e, reduceIte]
      refine c_reg fun K hK => ?_
      simp only [vm, vr, reduceIte, Nat.reduceEqDiff]
      (refine hK _ ?_; clear hK K)
      refine c_ret1 ?_
      simp only [vm, vr, reduceIte, Nat.reduceEqDiff]
 ·
  rw [if_neg z]
  refine spec_of mixed (fun _ _ _ h => h) Tryz.func8 (by decide +kernel) rfl (rs := _) rfl (by rfl) rfl (by simp [Tryz.f8]) (by decide +kernel) ?_; simp only [argsG, Nat.zero_add, Nat.reduceAdd]
  refine c_reg fun K hK => ?_
  simp only [vm, vr, reduceIte, Nat.reduceAdd, reduceCtorEq]
  refine need_by (by first | assumption | omega | (simp; done) | (simp; omega)) ?_
  (refine hK _ ?_; clear hK K)
  refine c_assoc ?_
  refine c_reg fun K hK => ?_
  simp only [vm, vr, q8, reduceIte, Nat.reduceEqDiff, Nat.reduceAdd, Nat.reduceLeDiff, reduceCtorEq]
  (apply s_call (spec35 _ ?s11001x1); (case hf => rfl); (case hq => (simp only [vm, reduceIte, Nat.reduceEqDiff, reduceCtorEq]; rfl)); (case hvs => rfl); (case s11001x1 => first | assumption | omega | (simp; done) | (simp; omega)))
  simp only [vm, vr, q8, k0, reduceIte, Nat.reduceEqDiff, reduceCtorEq]
  (apply s_call (spec36 _); (case hf => rfl); (case hq => (simp only [vm, reduceIte, Nat.reduceEqDiff, reduceCtorEq]; rfl)); (case hvs => rfl))
  simp only [vm, vr, q8, kc, reduceIte, Nat.reduceEqDiff, Nat.reduceAdd, Nat.reduceLeDiff, Nat.reduceMul, reduceCtorEq]
  refine need_by (by first | assumption | omega | (simp; done) | (simp; omega)) ?_
  (apply s_call (spec34w2 _ _); (case hf => rfl); (case hq => (simp only [vm, reduceIte, Nat.reduceEqDiff, reduceCtorEq]; rfl)); (case hvs => rfl))
  simp only [vm, vr, k, reduceIte, Nat.reduceEqDiff, reduceCtorEq]
  (refine hK _ ?_; clear hK K)
  refine c_assoc ?_
  refine c_reg fun K hK => ?_
  simp only [vm, vr, bne_self_eq_false, reduceIte, Nat.reduceEqDiff, reduceCtorEq]
  (refine hK _ ?_; clear hK K)
  refine c_if _ rfl (fun hb1 => ?_) (fun hb1 => ?_) <;> (have hp1 := hb1; try simp only [] at hp1)
  cases hb1
  refine c_skip ?_
  refine c_reg fun K hK => ?_
  simp only [vm, vr, reduceIte, Nat.reduceEqDiff, Nat.reduceAdd, reduceCtorEq]
  (apply s_call (hs37); (case hf => rfl); (case hq => (simp only [vm, reduceIte, Nat.reduceEqDiff, reduceCtorEq]; rfl)); (case hvs => rfl))
  simp only [vm, vr, reduceIte, Nat.reduceEqDiff, reduceCtorEq]
  (refine hK _ ?_; clear hK K)
  refine c_assoc ?_
  refine c_reg fun K hK => ?_
  simp only [vm, vr, reduceIte, Nat.reduceEqDiff, reduceCtorEq]
  (apply s_call (spec40 _ _); (case hf => rfl); (case hq => (simp only [vm, reduceIte, Nat.reduceEqDiff, reduceCtorEq]; rfl)); (case hvs => rfl))
  simp only [vm, vr, q8, kf, reduceIte, Nat.reduceEqDiff, reduceCtorEq]
  (apply s_call (spec40 _ _); (case hf => rfl); (case hq => (simp only [vm, reduceIte, Nat.reduceEqDiff, reduceCtorEq]; rfl)); (case hvs => rfl))
  simp only [vm, vr, q8, reduceIte, Nat.reduceEqDiff, Nat.reduceAdd, Nat.reduceLeDiff, Nat.reduceMul, reduceCtorEq]
  refine need_by (by first | assumption | omega | (simp; done) | (simp; omega)) ?_
  (apply s_call (spec34w2 _ _); (case hf => rfl); (case hq => (simp only [vm, reduceIte, Nat.reduceEqDiff, reduceCtorEq]; rfl)); (case hvs => rfl))
  simp only [vm, vr, k, reduceIte, Nat.reduceEqDiff, reduceCtorEq]
  (refine hK _ ?_; clear hK K)
  refine c_assoc ?_
  refine c_reg fun K hK => ?_
  simp only [vm, vr, bne_self_eq_false, reduceIte, Nat.reduceEqDiff, reduceCtorEq]
  (refine hK _ ?_; clear hK K)
  refine c_if _ rfl (fun hb2 => ?_) (fun hb2 => ?_) <;> (have hp2 := hb2; try simp only [] at hp2)
  cases hb2
  refine c_skip ?_
  refine c_assoc ?_
  refine c_reg fun K hK => ?_
  simp only [vm, vr, q8, reduceIte, Nat.reduceEqDiff, reduceCtorEq]
  (refine hK _ ?_; clear hK K)
  refine c_block ?_
  refine vcode_loop (fun i : Nat => [(1, L.p (V.sl (List.map nn l))), (2, L.p (fsV F)), (3, L.own 3 0), (6, L.nilS), (7, L.p (nn 0)), (43, L.p (fsV F)), (44, L.p (nn F.length)), (45, L.p (nn i))]) (fun _ => [(Key.f 3, M.frz), (Key.b 3, M.box 3), (Key.c 3 0, M.cell (L.p (nn t.water))), (Key.c 3 1, M.cell (L.p (nn t.air))), (Key.c 3 2, M.cell (L.p (V.sl (t.banks.map bnkV))))]) (fun i => i ≤ F.length ∧ scanI (fonE t F) 0 F = scanI (fonE t F) i (F.drop i)) (fun i => F.length - i) 0 ⟨Nat.zero_le _, rfl⟩ ?_ ?_
  ·
   simp only [vm, vmk, reduceIte, Nat.reduceEqDiff, Nat.reduceAdd, Nat.reduceLT, reduceCtorEq]
  ·
   rintro i ⟨hi, hq⟩
   rcases Nat.lt_or_ge i F.length with hil | hil
   ·
    have kl : decide ((i : Int) < (F.length : Int)) = true := decide_eq_true (by omega)
    have w1 : IntKind.wrap .i64 ((t.banks.length : Int) - 1) = (t.banks.length : Int) - 1 := wr64 (by omega) (by omega)
    have hs41 := aga_any F i (F.getD i default).1 (F.getD i default).2 (by omega)
    cases w : withinV (F.getD i default).1 0 ((t.banks.length : Int) - 1) with
    | false =>
     have e0 : fonE t F i (F.getD i default) = 6 := by unfold fonE; rw [w]; rfl
     have ke1 : firstV [6, 0] = 6 := rfl
     have ke2 : firstV [6, 23] = 6 := rfl
     rw [hq, scanI_hit default hil (by rw [e0]; decide), e0]
     cases a : ((F.take i).any fun g => g.1 == (F.getD i default).1) with
     | false =>
      rw [a] at hs41
      refine c_reg fun K hK => ?_
      simp only [vm, vr, kl, reduceIte, Nat.reduceEqDiff]
      (refine hK _ ?_; clear hK K)
      refine c_if _ rfl (fun hb3 => ?_) (fun hb3 => ?_) <;> (have hp3 := hb3; try simp only [] at hp3)
      refine c_skip ?_
      refine c_block ?_
      refine c_reg fun K hK => ?_
      simp only [vm, vr, q8, reduceIte, Nat.reduceEqDiff, Nat.reduceAdd, Nat.reduceLeDiff, reduceCtorEq]
      (refine atI_map default (by first | assumption | omega | (simp; done) | (simp; omega)) (by first | assumption | omega | (simp; done) | (simp; omega)) ?_; simp only [vm, vr, q8, reduceIte, Nat.reduceEqDiff, Nat.reduceAdd, reduceCtorEq])
      refine need_by (by first | assumption | omega | (simp; done) | (simp; omega)) ?_
      (refine hK _ ?_; clear hK K)
      refine c_reg fun K hK => ?_
      simp only [vm, vr, vp, q8, mapf, ← List.map_take, Int.reduceLE, reduceIte, Nat.reduceEqDiff, Nat.reduceAdd, reduceCtorEq]
      refine need_by (by first | assumption | omega | (simp; done) | (simp; omega)) ?_
      (apply s_call (hs41); (case hf => rfl); (case hq => (simp only [vm, reduceIte, Nat.reduceEqDiff]; rfl)); (case hvs => rfl))
      simp only [vm, vr, reduceIte, Nat.reduceEqDiff]
      (refine hK _ ?_; clear hK K)
      refine c_reg fun K hK => ?_
      simp only [vm, vr, q8, w1, reduceIte, Nat.reduceEqDiff, Nat.reduceAdd, Nat.reduceLeDiff, reduceCtorEq]
      (apply s_call (spec43 _ _ _); (case hf => rfl); (case hq => (simp only [vm, reduceIte, Nat.reduceEqDiff]; rfl)); (case hvs => rfl))
      (apply s_call (spec40 _ _); (case hf => rfl); (case hq => (simp only [vm, vr, w, reduceIte, Nat.reduceEqDiff]; rfl)); (case hvs => rfl))
      simp only [vm, vr, w, reduceIte, Nat.reduceEqDiff, reduceCtorEq]
      (apply s_call (spec40 _ _); (case hf => rfl); (case hq => (simp only [vm, reduceIte, Nat.reduceEqDiff]; rfl)); (case hvs => rfl))
      simp only [vm, vr, q8, reduceIte, Nat.reduceEqDiff, Nat.reduceAdd, Nat.reduceLeDiff, Nat.reduceMul, reduceCtorEq]
      refine need_by (by first | assumption | omega | (simp; done) | (simp; omega)) ?_
      (apply s_call (spec34w2 _ _); (case hf => rfl); (case hq => (simp only [vm, reduceIte, Nat.reduceEqDiff, reduceCtorEq]; rfl)); (case hvs => rfl))
      simp only [vm, vr, ke1, reduceIte, Nat.reduceEqDiff]
      (refine hK _ ?_; clear hK K)
      refine c_reg fun K hK => ?_
      simp only [vm, vr, Int.reduceBNe, reduceIte, Nat.reduceEqDiff]
      (refine hK _ ?_; clear hK K)
      refine vcode_if _ rfl (fun hb4 => ?_) (fun hb4 => ?_) <;> (have hp4 := hb4; try simp only [] at hp4)
      refine c_reg fun K hK => ?_
      simp only [vm, vr, reduceIte, Nat.reduceEqDiff]
      (refine hK _ ?_; clear hK K)
      refine c_ret1 ?_
      simp only [thenV_r, blockV_r]
      simp only [vm, vr, reduceIte, Nat.reduceEqDiff]
      cases hb4
      cases hb3
     | true =>
      rw [a] at hs41
      refine c_reg fun K hK => ?_
      simp only [vm, vr, kl, reduceIte, Nat.reduceEqDiff]
      (refine hK _ ?_; clear hK K)
      refine c_if _ rfl (fun hb3 => ?_) (fun hb3 => ?_) <;> (have hp3 := hb3; try simp only [] at hp3)
      refine c_skip ?_
      refine c_block ?_
      refine c_reg fun K hK => ?_
      simp only [vm, vr, q8, reduceIte, Nat.reduceEqDiff, Nat.reduceAdd, Nat.reduceLeDiff, reduceCtorEq]
      (refine atI_map default (by first | assumption | omega | (simp; done) | (simp; omega)) (by first | assumption | omega | (simp; done) | (simp; omega)) ?_; simp only [vm, vr, q8, reduceIte, Nat.reduceEqDiff, Nat.reduceAdd, reduceCtorEq])
      refine need_by (by first | assumption | omega | (simp; done) | (simp; omega)) ?_
      (refine hK _ ?_; clear hK K)
      refine c_reg fun K hK => ?_
      simp only [vm, vr, vp, q8, mapf, ← List.map_take, Int.reduceLE, reduceIte, Nat.reduceEqDiff, Nat.reduceAdd, reduceCtorEq]
      refine need_by (by first | assumption | omega | (simp; done) | (simp; omega)) ?_
      (apply s_call (hs41); (case hf => rfl); (case hq => (simp only [vm, reduceIte, Nat.reduceEqDiff]; rfl)); (case hvs => rfl))
      simp only [vm, vr, reduceIte, Nat.reduceEqDiff]
      (refine hK _ ?_; clear hK K)
      refine c_reg fun K hK => ?_
      simp only [vm, vr, q8, w1, reduceIte, Nat.reduceEqDiff, Nat.reduceAdd, Nat.reduceLeDiff, reduceCtorEq]
      (apply s_call (spec43 _ _ _); (case hf => rfl); (case hq => (simp only [vm, reduceIte, Nat.reduceEqDiff]; rfl)); (case hvs => rfl))
      (apply s_call (spec40 _ _); (case hf => rfl); (case hq => (simp only [vm, vr, w, reduceIte, Nat.reduceEqDiff]; rfl)); (case hvs => rfl))
      simp only [vm, vr, w, reduceIte, Nat.reduceEqDiff, reduceCtorEq]
      (apply s_call (spec40 _ _); (case hf => rfl); (case hq => (simp only [vm, reduceIte, Nat.reduceEqDiff]; rfl)); (case hvs => rfl))
      simp only [vm, vr, q8, reduceIte, Nat.reduceEqDiff, Nat.reduceAdd, Nat.reduceLeDiff, Nat.reduceMul, reduceCtorEq]
      refine need_by (by first | assumption | omega | (simp; done) | (simp; omega)) ?_
      (apply s_call (spec34w2 _ _); (case hf => rfl); (case hq => (simp only [vm, reduceIte, Nat.reduceEqDiff, reduceCtorEq]; rfl)); (case hvs => rfl))
      simp only [vm, vr, ke2, reduceIte, Nat.reduceEqDiff]
      (refine hK _ ?_; clear hK K)
      refine c_reg fun K hK => ?_
      simp only [vm, vr, Int.reduceBNe, reduceIte, Nat.reduceEqDiff]
      (refine hK _ ?_; clear hK K)
      refine vcode_if _ rfl (fun hb4 => ?_) (fun hb4 => ?_) <;> (have hp4 := hb4; try simp only [] at hp4)
      refine c_reg fun K hK => ?_
      simp only [vm, vr, reduceIte, Nat.reduceEqDiff]
      (refine hK _ ?_; clear hK K)
      refine c_ret1 ?_
      simp only [thenV_r, blockV_r]
      simp only [vm, vr, reduceIte, Nat.reduceEqDiff]
      cases hb4
      cases hb3
    | true =>
     cases a : ((F.take i).any fun g => g.1 == (F.getD i default).1) with
     | true =>
      have e0 : fonE t F i (F.getD i default) = 23 := by unfold fonE; rw [w, a]; rfl
      have ke1 : firstV [0, 23] = 23 := rfl
      rw [hq, scanI_hit default hil (by rw [e0]; decide), e0]
      rw [a] at hs41
      refine c_reg fun K hK => ?_
      simp only [vm, vr, kl, reduceIte, Nat.reduceEqDiff]
      (refine hK _ ?_; clear hK K)
      refine c_if _ rfl (fun hb3 => ?_) (fun hb3 => ?_) <;> (have hp3 := hb3; try simp only [] at hp3)
      refine c_skip ?_
      refine c_block ?_
      refine c_reg fun K hK => ?_
      simp only [vm, vr, q8, reduceIte, Nat.reduceEqDiff, Nat.reduceAdd, Nat.reduceLeDiff, reduceCtorEq]
      (refine atI_map default (by first | assumption | omega | (simp; done) | (simp; omega)) (by first | assumption | omega | (simp; done) | (simp; omega)) ?_; simp only [vm, vr, q8, reduceIte, Nat.reduceEqDiff, Nat.reduceAdd, reduceCtorEq])
      refine need_by (by first | assumption | omega | (simp; done) | (simp; omega)) ?_
      (refine hK _ ?_; clear hK K)
      refine c_reg fun K hK => ?_
      simp only [vm, vr, vp, q8, mapf, ← List.map_take, Int.reduceLE, reduceIte, Nat.reduceEqDiff, Nat.reduceAdd, reduceCtorEq]
      refine need_by (by first | assumption | omega | (simp; done) | (simp; omega)) ?_
      (apply s_call (hs41); (case hf => rfl); (case hq => (simp only [vm, reduceIte, Nat.reduceEqDiff]; rfl)); (case hvs => rfl))
      simp only [vm, vr, reduceIte, Nat.reduceEqDiff]
      (refine hK _ ?_; clear hK K)
      refine c_reg fun K hK => ?_
      simp only [vm, vr, q8, w1, reduceIte, Nat.reduceEqDiff, Nat.reduceAdd, Nat.reduceLeDiff, reduceCtorEq]
      (apply s_call (spec43 _ _ _); (case hf => rfl); (case hq => (simp only [vm, reduceIte, Nat.reduceEqDiff]; rfl)); (case hvs => rfl))
      (apply s_call (spec40 _ _); (case hf => rfl); (case hq => (simp only [vm, vr, w, reduceIte, Nat.reduceEqDiff]; rfl)); (case hvs => rfl))
      simp only [vm, vr, w, reduceIte, Nat.reduceEqDiff]
      (apply s_call (spec40 _ _); (case hf => rfl); (case hq => (simp only [vm, reduceIte, Nat.reduceEqDiff]; rfl)); (case hvs => rfl))
      simp only [vm, vr, q8, reduceIte, Nat.reduceEqDiff, Nat.reduceAdd, Nat.reduceLeDiff, Nat.reduceMul, reduceCtorEq]
      refine need_by (by first | assumption | omega | (simp; done) | (simp; omega)) ?_
      (apply s_call (spec34w2 _ _); (case hf => rfl); (case hq => (simp only [vm, reduceIte, Nat.reduceEqDiff, reduceCtorEq]; rfl)); (case hvs => rfl))
      simp only [vm, vr, ke1, reduceIte, Nat.reduceEqDiff]
      (refine hK _ ?_; clear hK K)
      refine c_reg fun K hK => ?_
      simp only [vm, vr, Int.reduceBNe, reduceIte, Nat.reduceEqDiff]
      (refine hK _ ?_; clear hK K)
      refine vcode_if _ rfl (fun hb4 => ?_) (fun hb4 => ?_) <;> (have hp4 := hb4; try simp only [] at hp4)
      refine c_reg fun K hK => ?_
      simp only [vm, vr, reduceIte, Nat.reduceEqDiff]
      (refine hK _ ?_; clear hK K)
      refine c_ret1 ?_
      simp only [thenV_r, blockV_r]
      simp only [vm, vr, reduceIte, Nat.reduceEqDiff]
      cases hb4
      cases hb3
     | false =>
      have e0 : fonE t F i (F.getD i default) = 0 := by unfold fonE; rw [w, a]; rfl
      rw [a] at hs41
      refine c_reg fun K hK => ?_
      simp only [vm, vr, kl, reduceIte, Nat.reduceEqDiff]
      (refine hK _ ?_; clear hK K)
      refine c_if _ rfl (fun hb3 => ?_) (fun hb3 => ?_) <;> (have hp3 := hb3; try simp only [] at hp3)
      refine c_skip ?_
      refine c_block ?_
      refine c_reg fun K hK => ?_
      simp only [vm, vr, q8, reduceIte, Nat.reduceEqDiff, Nat.reduceAdd, Nat.reduceLeDiff, reduceCtorEq]
      (refine atI_map default (by first | assumption | omega | (simp; done) | (simp; omega)) (by first | assumption | omega | (simp; done) | (simp; omega)) ?_; simp only [vm, vr, q8, reduceIte, Nat.reduceEqDiff, Nat.reduceAdd, reduceCtorEq])
      refine need_by (by first | assumption | omega | (simp; done) | (simp; omega)) ?_
      (refine hK _ ?_; clear hK K)
      refine c_reg fun K hK => ?_
      simp only [vm, vr, vp, q8, mapf, ← List.map_take, Int.reduceLE, reduceIte, Nat.reduceEqDiff, Nat.reduceAdd, reduceCtorEq]
      refine need_by (by first | assumption | omega | (simp; done) | (simp; omega)) ?_
      (apply s_call (hs41); (case hf => rfl); (case hq => (simp only [vm, reduceIte, Nat.reduceEqDiff]; rfl)); (case hvs => rfl))
      simp only [vm, vr, reduceIte, Nat.reduceEqDiff]
      (refine hK _ ?_; clear hK K)
      refine c_reg fun K hK => ?_
      simp only [vm, vr, q8, w1, reduceIte, Nat.reduceEqDiff, Nat.reduceAdd, Nat.reduceLeDiff, reduceCtorEq]
      (apply s_call (spec43 _ _ _); (case hf => rfl); (case hq => (simp only [vm, reduceIte, Nat.reduceEqDiff]; rfl)); (case hvs => rfl))
      (apply s_call (spec40 _ _); (case hf => rfl); (case hq => (simp only [vm, vr, w, reduceIte, Nat.reduceEqDiff]; rfl)); (case hvs => rfl))
      simp only [vm, vr, w, reduceIte, Nat.reduceEqDiff]
      (apply s_call (spec40 _ _); (case hf => rfl); (case hq => (simp only [vm, reduceIte, Nat.reduceEqDiff]; rfl)); (case hvs => rfl))
      simp only [vm, vr, q8, reduceIte, Nat.reduceEqDiff, Nat.reduceAdd, Nat.reduceLeDiff, Nat.reduceMul, reduceCtorEq]
      refine need_by (by first | assumption | omega | (simp; done) | (simp; omega)) ?_
      (apply s_call (spec34w2 _ _); (case hf => rfl); (case hq => (simp only [vm, reduceIte, Nat.reduceEqDiff, reduceCtorEq]; rfl)); (case hvs => rfl))
      simp only [vm, vr, k, reduceIte, Nat.reduceEqDiff]
      (refine hK _ ?_; clear hK K)
      refine c_reg fun K hK => ?_
      simp only [vm, vr, bne_self_eq_false, reduceIte, Nat.reduceEqDiff]
      (refine hK _ ?_; clear hK K)
      refine vcode_if _ rfl (fun hb4 => ?_) (fun hb4 => ?_) <;> (have hp4 := hb4; try simp only [] at hp4)
      cases hb4
      refine c_skip1 ?_
      simp only [thenV_n, blockV_n]
      refine c_reg1 fun K hK => ?_
      simp only [vm, vr, reduceIte, Nat.reduceEqDiff]
      (simp (disch := omega) only [wr64]; try simp only [vm, vr, vt, vp, q8, mapbnk, mapf, kl, w1, w, k, ← List.map_take, hb1, hb2, hb3, hb4, Int.reduceBNe, Int.reduceBEq, Int.reduceLT, Int.reduceLE, Int.reduceGT, Int.reduceGE, decide_true, decide_false, bne_self_eq_false, beq_self_eq_true, reduceIte, Nat.reduceEqDiff, Nat.reduceAdd, Nat.reduceLeDiff, Nat.reduceMul, Nat.reduceLT, reduceCtorEq])
      (refine hK _ ?_; clear hK K)
      simp only [thenV_n]
      rotate_left
      cases hb3
      refine ⟨i + 1, ?_, ⟨by omega, by rw [hq, scanI_go default hil e0]⟩, by omega⟩
      ((show Wk _ _ _; simp only [vm, vmk, reduceIte, Nat.reduceEqDiff, Nat.reduceAdd, Nat.reduceLT, reduceCtorEq]; (try simp (disch := omega) only [wr64]); try omega))
   ·
    exact absurd (hq.trans (scanI_end hil)) z
theorem spec48 (t : CTab) (x : CStrip) (S : List Int) (X : List (Int × Int)) (F : Flt) (ht : TabOk t) (hx : StrOk x) (hl : S.length = x.ents.length) (hX : X.length = x.ents.length) (hF : inF t.banks.length F) (hf : F.length < 1000000) (hS : ∀ i, i < S.length → ∃ s : Nat, S.getD i 0 = (s : Int) ∧ s < 2 ^ t.banks.length) : Sp0 48 [stpV t x, meV S X, fsV F] (R.v (.b (expB t x S X F))) := by
 have hxl := hx.len
 have htl := ht.len
 refine spec_of mixed (fun _ _ _ h => h) Tryz.func48 (by decide +kernel) rfl (rs := _) rfl (by rfl) rfl (by simp [Tryz.f48]) (by decide +kernel) ?_; simp only [argsG, Nat.zero_add, Nat.reduceAdd]
 refine c_reg fun K hK => ?_
 simp only [vm, vr, reduceIte, Nat.reduceEqDiff, Nat.reduceAdd, reduceCtorEq]
 refine need_by (by first | assumption | omega | (simp; done) | (simp; omega)) ?_
 refine need_by (by first | assumption | omega | (simp; done) | (simp; omega)) ?_
 (refine hK _ ?_; clear hK K)
 refine c_assoc ?_
 refine c_reg fun K hK => ?_
 simp only [vm, vr, q48, reduceIte, Nat.reduceEqDiff, Nat.reduceLeDiff, reduceCtorEq]
 (refine hK _ ?_; clear hK K)
 refine c_block ?_
 unfold expB
 refine vcode_loop (fun i : Nat => [(2, L.p (fsV F)), (3, L.own 3 0), (4, L.own 4 0), (6, L.p (V.b false)), (10, L.p (V.sl (List.map nn S))), (11, L.p (nn S.length)), (12, L.p (nn i))]) (fun _ => [(Key.b 4, M.box 2), (Key.c 4 0, M.cell (L.p (V.sl (S.map nn)))), (Key.c 4 1, M.cell (L.p (V.sl (X.map p2)))), (Key.b 3, M.box 5), (Key.c 3 0, M.cell (L.p (nn t.water))), (Key.c 3 1, M.cell (L.p (nn t.air))), (Key.c 3 2, M.cell (L.p (V.sl (t.banks.map bnkV)))), (Key.c 3 3, M.cell (L.p (V.sl (x.ents.map p2)))), (Key.c 3 4, M.cell (L.p (V.sl (x.tars.map p2))))]) (fun i => i ≤ S.length ∧ ∀ j, j < i → mtB (pasR t (fltS (S.getD j 0).toNat F) (x.ents.getD j default)) (X.getD j default) = true) (fun i => S.length - i) 0 ⟨Nat.zero_le _, fun j h => absurd h (by omega)⟩ ?_ ?_
 ·
  simp only [vm, vmk, reduceIte, Nat.reduceEqDiff, Nat.reduceAdd, Nat.reduceLT, reduceCtorEq]
 ·
  rintro i ⟨hi, hq⟩
  rcases Nat.lt_or_ge i S.length with hil | hil
  ·
   have kl : decide ((i : Int) < (S.length : Int)) = true := decide_eq_true (by omega)
   obtain ⟨s, es, s16⟩ := hS i hil
   have h16 := pw16 htl.2
   have hlt := fltS_lt s16 hF
   have wS : IntKind.wrap .u64 (s : Int) = (s : Int) := wrU (by omega) (by omega)
   have hs44 := spec44 s F t.banks.length htl.2 s16 hF hf
   have hs55 := spec55 t (fltS s F) (x.ents.getD i default) ht (by omega) (hx.ent i (by omega))
   have hs78 := spec78 (pasR t (fltS s F) (x.ents.getD i default)) (X.getD i default)
   have mm : mtB (pasR t (fltS (S.getD i 0).toNat F) (x.ents.getD i default)) (X.getD i default) = (decide ((pasR t (fltS s F) (x.ents.getD i default)).1 ≤ (X.getD i default).2) && decide ((X.getD i default).1 ≤ (pasR t (fltS s F) (x.ents.getD i default)).2)) := by rw [es, Int.toNat_natCast]; rfl
   rw [← mm] at hs78
   cases m : mtB (pasR t (fltS (S.getD i 0).toNat F) (x.ents.getD i default)) (X.getD i default) with
   | true =>
    rw [m] at hs78
    refine c_reg fun K hK => ?_
    simp only [vm, vr, kl, reduceIte, Nat.reduceEqDiff]
    (refine hK _ ?_; clear hK K)
    refine c_if _ rfl (fun hb1 => ?_) (fun hb1 => ?_) <;> (have hp1 := hb1; try simp only [] at hp1)
    refine c_skip ?_
    refine c_block ?_
    refine c_reg fun K hK => ?_
    simp only [vm, vr, q48, reduceIte, Nat.reduceEqDiff]
    (refine atI_map 0 (by first | assumption | omega | (simp; done) | (simp; omega)) (by first | assumption | omega | (simp; done) | (simp; omega)) ?_; simp only [vm, vr, q48, es])
    (refine hK _ ?_; clear hK K)
    refine c_draw fun K hK => ?_
    simp only [vm, vr, q48, wS, cvis, reduceIte, Nat.reduceEqDiff, Nat.reduceAdd, Nat.reduceLeDiff, reduceCtorEq]
    (apply d_call (hs44); (case hf => rfl); (case hq => (simp only [vm, reduceIte, Nat.reduceEqDiff]; rfl)); (case hvs => rfl))
    simp only [vm, vr, q48, reduceIte, Nat.reduceEqDiff, Nat.reduceAdd, Nat.reduceLeDiff, reduceCtorEq]
    (refine atI_map default (by first | assumption | omega | (simp; done) | (simp; omega)) (by first | assumption | omega | (simp; done) | (simp; omega)) ?_; simp only [vm, vr, q48, Nat.reduceAdd])
    (apply d_call (hs55); (case hf => rfl); (case hq => (simp only [vm, reduceIte, Nat.reduceEqDiff]; rfl)); (case hvs => rfl))
    simp only [vm, vr, q48, reduceIte, Nat.reduceEqDiff, Nat.reduceAdd, Nat.reduceLeDiff, reduceCtorEq]
    (refine atI_map default (by first | assumption | omega | (simp; done) | (simp; omega)) (by first | assumption | omega | (simp; done) | (simp; omega)) ?_; simp only [vm, vr, q48, Nat.reduceAdd])
    (apply d_call (hs78); (case hf => rfl); (case hq => (simp only [vm, reduceIte, Nat.reduceEqDiff]; rfl)); (case hvs => rfl))
    simp only [vm, vr, reduceIte, Nat.reduceEqDiff]
    (refine draw_ok (by decide +kernel) (hK _ ?_); clear hK; clear K)
    refine vcode_if _ rfl (fun hb2 => ?_) (fun hb2 => ?_) <;> (have hp2 := hb2; try simp only [] at hp2)
    cases hb2
    refine c_skip1 ?_
    simp only [thenV_n, blockV_n]
    refine c_reg1 fun K hK => ?_
    simp only [vm, vr, reduceIte, Nat.reduceEqDiff]
    (simp (disch := omega) only [wr64]; try simp only [vm, vr, vt, vp, q48, mapbnk, mapp2, mapf, kl, es, wS, cvis, hb1, hb2, Int.reduceBNe, Int.reduceBEq, Int.reduceLT, Int.reduceLE, Int.reduceGT, Int.reduceGE, decide_true, decide_false, bne_self_eq_false, beq_self_eq_true, reduceIte, Nat.reduceEqDiff, Nat.reduceAdd, Nat.reduceLeDiff, Nat.reduceMul, Nat.reduceLT, reduceCtorEq])
    (refine hK _ ?_; clear hK K)
    simp only [thenV_n]
    rotate_left
    cases hb1
    refine ⟨i + 1, ?_, ⟨by omega, fun j hj => ?_⟩, by omega⟩
    ·
     ((show Wk _ _ _; simp only [vm, vmk, reduceIte, Nat.reduceEqDiff, Nat.reduceAdd, Nat.reduceLT, reduceCtorEq]; (try simp (disch := omega) only [wr64]); try omega))
    ·
     by_cases e : j = i
     ·
      rw [e]; exact m
     ·
      exact hq j (by omega)
   | false =>
    rw [m] at hs78
    have hr : ((List.range S.length).all fun i => mtB (pasR t (fltS (S.getD i 0).toNat F) (x.ents.getD i default)) (X.getD i default)) = false := by
     rw [List.all_eq_false]; exact ⟨i, List.mem_range.2 hil, by rw [m]; decide⟩
    rw [hr]
    refine c_reg fun K hK => ?_
    simp only [vm, vr, kl, reduceIte, Nat.reduceEqDiff]
    (refine hK _ ?_; clear hK K)
    refine c_if _ rfl (fun hb1 => ?_) (fun hb1 => ?_) <;> (have hp1 := hb1; try simp only [] at hp1)
    refine c_skip ?_
    refine c_block ?_
    refine c_reg fun K hK => ?_
    simp only [vm, vr, q48, reduceIte, Nat.reduceEqDiff]
    (refine atI_map 0 (by first | assumption | omega | (simp; done) | (simp; omega)) (by first | assumption | omega | (simp; done) | (simp; omega)) ?_; simp only [vm, vr, q48, es])
    (refine hK _ ?_; clear hK K)
    refine c_draw fun K hK => ?_
    simp only [vm, vr, q48, wS, cvis, reduceIte, Nat.reduceEqDiff, Nat.reduceAdd, Nat.reduceLeDiff, reduceCtorEq]
    (apply d_call (hs44); (case hf => rfl); (case hq => (simp only [vm, reduceIte, Nat.reduceEqDiff]; rfl)); (case hvs => rfl))
    simp only [vm, vr, q48, reduceIte, Nat.reduceEqDiff, Nat.reduceAdd, Nat.reduceLeDiff, reduceCtorEq]
    (refine atI_map default (by first | assumption | omega | (simp; done) | (simp; omega)) (by first | assumption | omega | (simp; done) | (simp; omega)) ?_; simp only [vm, vr, q48, Nat.reduceAdd])
    (apply d_call (hs55); (case hf => rfl); (case hq => (simp only [vm, reduceIte, Nat.reduceEqDiff]; rfl)); (case hvs => rfl))
    simp only [vm, vr, q48, reduceIte, Nat.reduceEqDiff, Nat.reduceAdd, Nat.reduceLeDiff, reduceCtorEq]
    (refine atI_map default (by first | assumption | omega | (simp; done) | (simp; omega)) (by first | assumption | omega | (simp; done) | (simp; omega)) ?_; simp only [vm, vr, q48, Nat.reduceAdd])
    (apply d_call (hs78); (case hf => rfl); (case hq => (simp only [vm, reduceIte, Nat.reduceEqDiff]; rfl)); (case hvs => rfl))
    simp only [vm, vr, reduceIte, Nat.reduceEqDiff]
    (refine draw_ok (by decide +kernel) (hK _ ?_); clear hK; clear K)
    refine vcode_if _ rfl (fun hb2 => ?_) (fun hb2 => ?_) <;> (have hp2 := hb2; try simp only [] at hp2)
    refine c_reg fun K hK => ?_
    simp only [vm, vr]
    (refine hK _ ?_; clear hK K)
    refine c_ret1 ?_
    simp only [thenV_r, blockV_r]
    simp only [vm, vr, reduceIte, Nat.reduceEqDiff]
    cases hb2
    cases hb1
  ·
   have kl : decide ((i : Int) < (S.length : Int)) = false := decide_eq_false (by omega)
   have hr : ((List.range S.length).all fun i => mtB (pasR t (fltS (S.getD i 0).toNat F) (x.ents.getD i default)) (X.getD i default)) = true := by
    rw [List.all_eq_true]; exact fun j hj => hq j (by have := List.mem_range.1 hj; omega)
   rw [hr]
   refine c_reg fun K hK => ?_
   simp only [vm, vr, kl, reduceIte, Nat.reduceEqDiff]
   (refine hK _ ?_; clear hK K)
   refine c_if _ rfl (fun hb1 => ?_) (fun hb1 => ?_) <;> (have hp1 := hb1; try simp only [] at hp1)
   cases hb1
   refine c_exit ?_
   simp only [thenV_n, thenV_e, blockV_e, reduceIte]
   refine c_reg fun K hK => ?_
   simp only [vm, vr]
   (refine hK _ ?_; clear hK K)
   refine c_ret1 ?_
   simp only [vm, vr, reduceIte, Nat.reduceEqDiff]
end Go.Vm
