import Derived.Test.YtoefpbjabpaeaaaGreatDoorVmBC
import Derived.Test.YtoefpbjabpaeaaaGreatDoorWcFs
import Derived.Test.YtoefpbjabpaeaaaGreatDoorWcFi
import Derived.Test.YtoefpbjabpaeaaaGreatDoorWcL0
import Derived.Test.YtoefpbjabpaeaaaGreatDoorWcGr
set_option linter.all false
namespace Go.Vm
open Go.Proofs
set_option maxRecDepth 20000
set_option maxHeartbeats 8000000
--DEF Q = q3
--DEF MEM = [(Key.b 7, M.box 2), (Key.c 7 0, M.cell (L.p (V.sl (S.map nn)))), (Key.c 7 1, M.cell (L.p (V.sl (X.map p2)))), (Key.b 5, M.box 3), (Key.c 5 0, M.cell (L.p (V.sl (S.map nn)))), (Key.c 5 1, M.cell (L.p (V.sl (X.map p2)))), (Key.c 5 2, M.cell (L.p (fsV F))), (Key.b 4, M.box 2), (Key.c 4 0, M.cell (L.p (V.sl (x.ents.map p2)))), (Key.c 4 1, M.cell (L.p (V.sl (x.tars.map p2)))), (Key.b 3, M.box 3), (Key.c 3 0, M.cell (L.p (nn t.water))), (Key.c 3 1, M.cell (L.p (nn t.air))), (Key.c 3 2, M.cell (L.p (V.sl (t.banks.map bnkV))))]
--DEF SLC = (3, L.own 3 0), (4, L.own 4 0), (5, L.own 5 0), (6, L.p (V.b false)), (7, L.own 7 0), (8, L.p (V.sl (List.map nn LW))), (9, L.p (nn EW)), (10, L.p (V.sl (List.map fsV MF))), (11, L.p (nn GF))
--DEF ARGS = [ctV t, csV x, .agg [.sl (S.map nn), .sl (X.map p2), fsV F]]
/-! the law CoolFaulty -/
def cE1 (t : CTab) (S : List Int) : Int := if (tabE t).2 ≠ 0 then (tabE t).2 else pleE t S
theorem wf_cE {t : CTab} {S : List Int} {F : Flt} : wfE t S F = if cE1 t S ≠ 0 then cE1 t S else fesE t F := by
 unfold wfE cE1
 by_cases c : (tabE t).2 = 0
 ·
  have hA : ∀ z : Int, (if (tabE t).2 ≠ 0 then (tabE t).2 else z) = z := fun z => if_neg (fun k => k c)
  rw [hA, hA]
 ·
  have hA : ∀ z : Int, (if (tabE t).2 ≠ 0 then (tabE t).2 else z) = (tabE t).2 := fun z => if_pos c
  rw [hA, hA, if_pos c]
theorem fnd_mem {E : Nat → List Flt} {G : Flt} : ∀ {m k : Nat}, G ∈ fndF E m k → ∃ j, k ≤ j ∧ j < k + m ∧ G ∈ E j
 | 0, k, h => by cases h
 | m + 1, k, h => by
  unfold fndF at h
  split at h
  ·
   exact ⟨k, by omega, by omega, h⟩
  ·
   obtain ⟨j, h1, h2, h3⟩ := fnd_mem h
   exact ⟨j, by omega, by omega, h3⟩
theorem min_mem {t : CTab} {x : CStrip} {S : List Int} {X : List (Int × Int)} {G : Flt} (h : G ∈ minF t x S X) : G ∈ allL t.banks.length t.banks.length ∧ expB t x S X G = true := by
 obtain ⟨j, _, _, h3⟩ := fnd_mem h
 rw [siz_all, List.mem_filter, Bool.and_eq_true] at h3
 exact ⟨h3.1, h3.2.2⟩
theorem fnd_len {E : Nat → List Flt} {B : Nat} (hE : ∀ k, (E k).length ≤ B) : ∀ {m k : Nat}, (fndF E m k).length ≤ B
 | 0, k => Nat.zero_le _
 | m + 1, k => by
  unfold fndF; split
  ·
   exact hE k
  ·
   exact fnd_len hE
theorem min_len {t : CTab} {x : CStrip} {S : List Int} {X : List (Int × Int)} (h4 : t.banks.length ≤ 4) : (minF t x S X).length ≤ 81 :=
 fnd_len fun k => by rw [← sizN_all]; exact siz_le h4
section
variable (t : CTab) (x : CStrip) (S : List Int) (X : List (Int × Int)) (F : Flt) (hs5 : Sp0 5 [] (R.v (.b true)))
include hs5
theorem clf_far (h : fewB t x = false) : Sp0 3 [ctV t, csV x, .agg [.sl (S.map nn), .sl (X.map p2), fsV F]] (R.v (.b true)) := by
 refine spec_of mixed (fun _ _ _ h => h) Tryz.func3 (by decide +kernel) rfl (rs := _) rfl (by rfl) rfl (by simp [Tryz.f3]) (by decide +kernel) ?_; simp only [argsG, Nat.zero_add, Nat.reduceAdd]
 refine c_reg fun K hK => ?_
 simp only [vm, vr, reduceIte, Nat.reduceEqDiff, Nat.reduceAdd, reduceCtorEq]
 refine need_by (by first | assumption | omega | (simp; done) | (simp; omega)) ?_
 refine need_by (by first | assumption | omega | (simp; done) | (simp; omega)) ?_
 refine need_by (by first | assumption | omega | (simp; done) | (simp; omega)) ?_
 (refine hK _ ?_; clear hK K)
 refine c_assoc ?_
 refine c_reg fun K hK => ?_
 (apply s_call (hs5); (case hf => rfl); (case hq => (simp only [vm]; rfl)); (case hvs => rfl))
 simp only [vm, vr, reduceIte, Nat.reduceEqDiff, reduceCtorEq]
 (refine hK _ ?_; clear hK K)
 refine c_if _ rfl (fun hb1 => ?_) (fun hb1 => ?_) <;> (have hp1 := hb1; try simp only [] at hp1)
 cases hb1
 refine c_skip ?_
 refine c_assoc ?_
 refine c_reg fun K hK => ?_
 simp only [vm, vr, q3, reduceIte, Nat.reduceEqDiff, Nat.reduceAdd, Nat.reduceLeDiff, reduceCtorEq]
 (apply s_call (spec6 _ _); (case hf => rfl); (case hq => (simp only [vm, reduceIte, Nat.reduceEqDiff, reduceCtorEq]; rfl)); (case hvs => rfl))
 simp only [vm, vr, h, reduceIte, Nat.reduceEqDiff, reduceCtorEq]
 (refine hK _ ?_; clear hK K)
 refine c_if _ rfl (fun hb2 => ?_) (fun hb2 => ?_) <;> (have hp2 := hb2; try simp only [] at hp2)
 refine c_assoc ?_
 refine c_reg fun K hK => ?_
 simp only [vm, vr]
 (refine hK _ ?_; clear hK K)
 refine c_ret ?_
 simp only [vm, vr, reduceIte, Nat.reduceEqDiff, reduceCtorEq]
 cases hb2
theorem clf_shr (h : fewB t x = true) (h2 : decide ((S.length : Int) ≤ 14) = false) : Sp0 3 [ctV t, csV x, .agg [.sl (S.map nn), .sl (X.map p2), fsV F]] (R.v (.b true)) := by
 refine spec_of mixed (fun _ _ _ h => h) Tryz.func3 (by decide +kernel) rfl (rs := _) rfl (by rfl) rfl (by simp [Tryz.f3]) (by decide +kernel) ?_; simp only [argsG, Nat.zero_add, Nat.reduceAdd]
 refine c_reg fun K hK => ?_
 simp only [vm, vr, reduceIte, Nat.reduceEqDiff, Nat.reduceAdd, reduceCtorEq]
 refine need_by (by first | assumption | omega | (simp; done) | (simp; omega)) ?_
 refine need_by (by first | assumption | omega | (simp; done) | (simp; omega)) ?_
 refine need_by (by first | assumption | omega | (simp; done) | (simp; omega)) ?_
 (refine hK _ ?_; clear hK K)
 refine c_assoc ?_
 refine c_reg fun K hK => ?_
 (apply s_call (hs5); (case hf => rfl); (case hq => (simp only [vm]; rfl)); (case hvs => rfl))
 simp only [vm, vr, reduceIte, Nat.reduceEqDiff, reduceCtorEq]
 (refine hK _ ?_; clear hK K)
 refine c_if _ rfl (fun hb1 => ?_) (fun hb1 => ?_) <;> (have hp1 := hb1; try simp only [] at hp1)
 cases hb1
 refine c_skip ?_
 refine c_assoc ?_
 refine c_reg fun K hK => ?_
 simp only [vm, vr, q3, reduceIte, Nat.reduceEqDiff, Nat.reduceAdd, Nat.reduceLeDiff, reduceCtorEq]
 (apply s_call (spec6 _ _); (case hf => rfl); (case hq => (simp only [vm, reduceIte, Nat.reduceEqDiff, reduceCtorEq]; rfl)); (case hvs => rfl))
 simp only [vm, vr, q3, h, reduceIte, Nat.reduceEqDiff, Nat.reduceLeDiff, reduceCtorEq]
 (apply s_call (spec7 _); (case hf => rfl); (case hq => (simp only [vm, reduceIte, Nat.reduceEqDiff, reduceCtorEq]; rfl)); (case hvs => rfl))
 simp only [vm, vr, h2, reduceIte, Nat.reduceEqDiff, reduceCtorEq]
 (refine hK _ ?_; clear hK K)
 refine c_if _ rfl (fun hb2 => ?_) (fun hb2 => ?_) <;> (have hp2 := hb2; try simp only [] at hp2)
 refine c_assoc ?_
 refine c_reg fun K hK => ?_
 simp only [vm, vr]
 (refine hK _ ?_; clear hK K)
 refine c_ret ?_
 simp only [vm, vr, reduceIte, Nat.reduceEqDiff, reduceCtorEq]
 cases hb2
theorem clf_exi (h : fewB t x = true) (h2 : decide ((S.length : Int) ≤ 14) = true) (h3 : decide ((X.length : Int) > 14) = true) : Sp0 3 [ctV t, csV x, .agg [.sl (S.map nn), .sl (X.map p2), fsV F]] (R.v (.b true)) := by
 refine spec_of mixed (fun _ _ _ h => h) Tryz.func3 (by decide +kernel) rfl (rs := _) rfl (by rfl) rfl (by simp [Tryz.f3]) (by decide +kernel) ?_; simp only [argsG, Nat.zero_add, Nat.reduceAdd]
 refine c_reg fun K hK => ?_
 simp only [vm, vr, reduceIte, Nat.reduceEqDiff, Nat.reduceAdd, reduceCtorEq]
 refine need_by (by first | assumption | omega | (simp; done) | (simp; omega)) ?_
 refine need_by (by first | assumption | omega | (simp; done) | (simp; omega)) ?_
 refine need_by (by first | assumption | omega | (simp; done) | (simp; omega)) ?_
 (refine hK _ ?_; clear hK K)
 refine c_assoc ?_
 refine c_reg fun K hK => ?_
 (apply s_call (hs5); (case hf => rfl); (case hq => (simp only [vm]; rfl)); (case hvs => rfl))
 simp only [vm, vr, reduceIte, Nat.reduceEqDiff, reduceCtorEq]
 (refine hK _ ?_; clear hK K)
 refine c_if _ rfl (fun hb1 => ?_) (fun hb1 => ?_) <;> (have hp1 := hb1; try simp only [] at hp1)
 cases hb1
 refine c_skip ?_
 refine c_assoc ?_
 refine c_reg fun K hK => ?_
 simp only [vm, vr, q3, reduceIte, Nat.reduceEqDiff, Nat.reduceAdd, Nat.reduceLeDiff, reduceCtorEq]
 (apply s_call (spec6 _ _); (case hf => rfl); (case hq => (simp only [vm, reduceIte, Nat.reduceEqDiff, reduceCtorEq]; rfl)); (case hvs => rfl))
 simp only [vm, vr, q3, h, reduceIte, Nat.reduceEqDiff, Nat.reduceLeDiff, reduceCtorEq]
 (apply s_call (spec7 _); (case hf => rfl); (case hq => (simp only [vm, reduceIte, Nat.reduceEqDiff, reduceCtorEq]; rfl)); (case hvs => rfl))
 simp only [vm, vr, q3, h2, h3, reduceIte, Nat.reduceEqDiff, Nat.reduceAdd, Nat.reduceLeDiff, reduceCtorEq]
 (refine hK _ ?_; clear hK K)
 refine c_if _ rfl (fun hb2 => ?_) (fun hb2 => ?_) <;> (have hp2 := hb2; try simp only [] at hp2)
 refine c_assoc ?_
 refine c_reg fun K hK => ?_
 simp only [vm, vr]
 (refine hK _ ?_; clear hK K)
 refine c_ret ?_
 simp only [vm, vr, reduceIte, Nat.reduceEqDiff, reduceCtorEq]
 cases hb2
theorem clf_flt (h : fewB t x = true) (h2 : decide ((S.length : Int) ≤ 14) = true) (h3 : decide ((X.length : Int) > 14) = false) (h4 : decide ((F.length : Int) > 6) = true) : Sp0 3 [ctV t, csV x, .agg [.sl (S.map nn), .sl (X.map p2), fsV F]] (R.v (.b true)) := by
 refine spec_of mixed (fun _ _ _ h => h) Tryz.func3 (by decide +kernel) rfl (rs := _) rfl (by rfl) rfl (by simp [Tryz.f3]) (by decide +kernel) ?_; simp only [argsG, Nat.zero_add, Nat.reduceAdd]
 refine c_reg fun K hK => ?_
 simp only [vm, vr, reduceIte, Nat.reduceEqDiff, Nat.reduceAdd, reduceCtorEq]
 refine need_by (by first | assumption | omega | (simp; done) | (simp; omega)) ?_
 refine need_by (by first | assumption | omega | (simp; done) | (simp; omega)) ?_
 refine need_by (by first | assumption | omega | (simp; done) | (simp; omega)) ?_
 (refine hK _ ?_; clear hK K)
 refine c_assoc ?_
 refine c_reg fun K hK => ?_
 (apply s_call (hs5); (case hf => rfl); (case hq => (simp only [vm]; rfl)); (case hvs => rfl))
 simp only [vm, vr, reduceIte, Nat.reduceEqDiff, reduceCtorEq]
 (refine hK _ ?_; clear hK K)
 refine c_if _ rfl (fun hb1 => ?_) (fun hb1 => ?_) <;> (have hp1 := hb1; try simp only [] at hp1)
 cases hb1
 refine c_skip ?_
 refine c_assoc ?_
 refine c_reg fun K hK => ?_
 simp only [vm, vr, q3, reduceIte, Nat.reduceEqDiff, Nat.reduceAdd, Nat.reduceLeDiff, reduceCtorEq]
 (apply s_call (spec6 _ _); (case hf => rfl); (case hq => (simp only [vm, reduceIte, Nat.reduceEqDiff, reduceCtorEq]; rfl)); (case hvs => rfl))
 simp only [vm, vr, q3, h, reduceIte, Nat.reduceEqDiff, Nat.reduceLeDiff, reduceCtorEq]
 (apply s_call (spec7 _); (case hf => rfl); (case hq => (simp only [vm, reduceIte, Nat.reduceEqDiff, reduceCtorEq]; rfl)); (case hvs => rfl))
 simp only [vm, vr, q3, h2, h3, h4, reduceIte, Nat.reduceEqDiff, Nat.reduceAdd, Nat.reduceLeDiff, reduceCtorEq]
 (refine hK _ ?_; clear hK K)
 refine c_if _ rfl (fun hb2 => ?_) (fun hb2 => ?_) <;> (have hp2 := hb2; try simp only [] at hp2)
 refine c_assoc ?_
 refine c_reg fun K hK => ?_
 simp only [vm, vr]
 (refine hK _ ?_; clear hK K)
 refine c_ret ?_
 simp only [vm, vr, reduceIte, Nat.reduceEqDiff, reduceCtorEq]
 cases hb2
theorem clf_main (h : fewB t x = true) (h2 : decide ((S.length : Int) ≤ 14) = true) (h3 : decide ((X.length : Int) > 14) = false) (h4 : decide ((F.length : Int) > 6) = false) : Sp0 3 [ctV t, csV x, .agg [.sl (S.map nn), .sl (X.map p2), fsV F]] (R.v (.b true)) := by
 obtain ⟨f1, f2, f3⟩ := few_ok h
 have g2 := of_decide_eq_true h2
 have g3 := of_decide_eq_false h3
 have g4 := of_decide_eq_false h4
 have hs11 := spec11 F (by omega)
 have hs14 := spec14 S X (by omega) (by omega)
 have hs15 := spec15 t (by omega)
 have hs20 := spec20 t x (by omega) (by omega) (by omega)
 rw [both_op] at hs20
 obtain ⟨LW, EW, hs8, hW0, hW1⟩ : ∃ (LW : List Int) (EW : Int), Sp0 8 [ctV t, .sl (S.map nn), fsV F] (R.v2 (.sl (LW.map nn)) (nn EW)) ∧ (wfE t S F = 0 → EW = 0 ∧ LW = witL S F S.length) ∧ (wfE t S F ≠ 0 → EW = wfE t S F ∧ LW = []) := by
  by_cases c : wfE t S F = 0
  ·
   exact ⟨_, _, spec8 t S F c, fun _ => ⟨rfl, rfl⟩, fun k => absurd c k⟩
  ·
   exact ⟨[], _, spec8ue t S F (by omega) (by omega) (by omega) c, fun k => absurd k c, fun _ => ⟨rfl, rfl⟩⟩
 obtain ⟨MF, GF, hs12, hF0, hF1, hF2⟩ : ∃ (MF : List Flt) (GF : Int), Sp0 12 [ctV t, csV x, meV S X] (R.v2 (.sl (MF.map fsV)) (nn GF)) ∧ (opE t x ≠ 0 → GF = opE t x ∧ MF = []) ∧ (opE t x = 0 → meE t x S X ≠ 0 → GF = meE t x S X ∧ MF = []) ∧ (opE t x = 0 → meE t x S X = 0 → MF = minF t x S X ∧ GF = if (minF t x S X).length = 0 then 12 else 0) := by
  by_cases c : opE t x = 0
  ·
   by_cases cs : S.length = x.ents.length ∧ X.length = x.ents.length
   ·
    have hm := fi_main t x S X c cs.1 cs.2
    by_cases z : meE t x S X = 0
    ·
     rw [if_neg (fun k => k z)] at hm
     exact ⟨_, _, hm, fun k => absurd c k, fun _ k => absurd z k, fun _ _ => ⟨rfl, rfl⟩⟩
    ·
     rw [if_pos z] at hm
     exact ⟨[], _, hm, fun k => absurd c k, fun _ _ => ⟨rfl, rfl⟩, fun _ k => absurd k z⟩
   ·
    have e : meE t x S X = 10 := by unfold meE; rw [if_neg cs]
    exact ⟨[], _, fi_shp t x S X (by omega) (by omega) c cs, fun k => absurd c k, fun _ _ => ⟨e.symm, rfl⟩, fun _ k => absurd k (by rw [e]; decide)⟩
  ·
   exact ⟨[], _, fi_op t x S X (by omega) (by omega) (by omega) (by omega) (by omega) c, fun _ => ⟨rfl, rfl⟩, fun k => absurd k c, fun k => absurd k c⟩
 refine spec_of mixed (fun _ _ _ h => h) Tryz.func3 (by decide +kernel) rfl (rs := _) rfl (by rfl) rfl (by simp [Tryz.f3]) (by decide +kernel) ?_; simp only [argsG, Nat.zero_add, Nat.reduceAdd]
 refine c_reg fun K hK => ?_
 simp only [vm, vr,  reduceIte, Nat.reduceEqDiff, Nat.reduceAdd, reduceCtorEq]
 refine need_by (by first | assumption | omega | (simp; done) | (simp; omega)) ?_
 refine need_by (by first | assumption | omega | (simp; done) | (simp; omega)) ?_
 refine need_by (by first | assumption | omega | (simp; done) | (simp; omega)) ?_
 (refine hK _ ?_; clear hK K)
 refine c_assoc ?_
 refine c_reg fun K hK => ?_
 (apply s_call (hs5); (case hf => rfl); (case hq => (simp only [vm,  ]; rfl)); (case hvs => rfl))
 simp only [vm, vr,  reduceIte, Nat.reduceEqDiff, reduceCtorEq]
 (refine hK _ ?_; clear hK K)
 refine c_if _ rfl (fun hb1 => ?_) (fun hb1 => ?_) <;> (have hp1 := hb1; try simp only [] at hp1)
 cases hb1
 refine c_skip ?_
 refine c_assoc ?_
 refine c_reg fun K hK => ?_
 simp only [vm, vr,  q3, reduceIte, Nat.reduceEqDiff, Nat.reduceAdd, Nat.reduceLeDiff, reduceCtorEq]
 (apply s_call (spec6 _ _); (case hf => rfl); (case hq => (simp only [vm,  reduceIte, Nat.reduceEqDiff, reduceCtorEq]; rfl)); (case hvs => rfl))
 simp only [vm, vr,  q3, h, reduceIte, Nat.reduceEqDiff, Nat.reduceLeDiff, reduceCtorEq]
 (apply s_call (spec7 _); (case hf => rfl); (case hq => (simp only [vm,  reduceIte, Nat.reduceEqDiff, reduceCtorEq]; rfl)); (case hvs => rfl))
 simp only [vm, vr,  q3, h2, h3, h4, reduceIte, Nat.reduceEqDiff, Nat.reduceAdd, Nat.reduceLeDiff, reduceCtorEq]
 (refine hK _ ?_; clear hK K)
 refine c_if _ rfl (fun hb2 => ?_) (fun hb2 => ?_) <;> (have hp2 := hb2; try simp only [] at hp2)
 cases hb2
 refine c_skip ?_
 refine c_reg fun K hK => ?_
 simp only [vm, vr,  q3, reduceIte, Nat.reduceEqDiff, Nat.reduceAdd, Nat.reduceLeDiff, reduceCtorEq]
 refine need_by (by first | assumption | omega | (simp; done) | (simp; omega)) ?_
 (refine hK _ ?_; clear hK K)
 refine c_draw fun K hK => ?_
 simp only [vm, vr,  q3, reduceIte, Nat.reduceEqDiff, Nat.reduceAdd, Nat.reduceLeDiff, reduceCtorEq]
 (apply d_callx (spec9 _ ?s8704x1); (case hf => rfl); (case hq => (simp only [vm,  reduceIte, Nat.reduceEqDiff, reduceCtorEq]; rfl)); (case hvs => rfl); (case hL => (simp only [vm, R.toL, R1.toL, rcsToL, RC.toL, siteN, reduceIte, Nat.reduceAdd, Nat.reduceMul]; rfl)); (case hfr => (simp only [vm, vr,  reduceIte, Nat.reduceEqDiff, reduceCtorEq]; try rfl)); (case s8704x1 => first | assumption | omega | (simp; done) | (simp; omega)))
 simp only [vm, vr, vp,  q3, reduceIte, Nat.reduceEqDiff, Nat.reduceLeDiff, reduceCtorEq]
 (apply d_calla (spec10 _ ?s8705x1); (case hf => rfl); (case hq => (simp only [vm,  reduceIte, Nat.reduceEqDiff, reduceCtorEq]; rfl)); (case hvs => rfl); (case hfr => (simp only [vm,  reduceIte, Nat.reduceEqDiff, reduceCtorEq])); (case hfz => rfl); (case s8705x1 => first | assumption | omega | (simp; done) | (simp; omega)))
 simp only [vm, vr,  q3, reduceIte, Nat.reduceEqDiff, Nat.reduceAdd, Nat.reduceLeDiff, reduceCtorEq]
 (apply d_calla (hs11); (case hf => rfl); (case hq => (simp only [vm,  reduceIte, Nat.reduceEqDiff, reduceCtorEq]; rfl)); (case hvs => rfl); (case hfr => (simp only [vm,  reduceIte, Nat.reduceEqDiff, reduceCtorEq])); (case hfz => rfl))
 (apply d_call2 (hs8); (case hf => rfl); (case hq => (simp only [vm, vr,  reduceIte, Nat.reduceEqDiff, reduceCtorEq]; rfl)); (case hvs => rfl))
 simp only [vm, vr,  reduceIte, Nat.reduceEqDiff, reduceCtorEq]
 (refine draw_ok (by decide +kernel) (hK _ ?_); clear hK; clear K)
 refine c_draw fun K hK => ?_
 simp only [vm, vr,  q3, reduceIte, Nat.reduceEqDiff, Nat.reduceAdd, Nat.reduceLeDiff, reduceCtorEq]
 (apply d_callx (spec9 _ ?s8708x1); (case hf => rfl); (case hq => (simp only [vm,  reduceIte, Nat.reduceEqDiff, reduceCtorEq]; rfl)); (case hvs => rfl); (case hL => (simp only [vm, R.toL, R1.toL, rcsToL, RC.toL, siteN, reduceIte, Nat.reduceAdd, Nat.reduceMul]; rfl)); (case hfr => (simp only [vm, vr,  reduceIte, Nat.reduceEqDiff, reduceCtorEq]; try rfl)); (case s8708x1 => first | assumption | omega | (simp; done) | (simp; omega)))
 simp only [vm, vr, vp,  q3, reduceIte, Nat.reduceEqDiff, Nat.reduceAdd, Nat.reduceLeDiff, reduceCtorEq]
 (apply d_callx (spec13 _ ?s8709x1 ?s8709x2); (case hf => rfl); (case hq => (simp only [vm,  reduceIte, Nat.reduceEqDiff, reduceCtorEq]; rfl)); (case hvs => rfl); (case hL => (simp only [vm, R.toL, R1.toL, rcsToL, RC.toL, siteN, reduceIte, Nat.reduceAdd, Nat.reduceMul, reduceCtorEq]; rfl)); (case hfr => (simp only [vm, vr,  reduceIte, Nat.reduceEqDiff, reduceCtorEq]; try rfl)); (case s8709x1 | s8709x2 => first | assumption | omega | (simp; done) | (simp; omega)))
 simp only [vm, vr,  q3, reduceIte, Nat.reduceEqDiff, Nat.reduceAdd, Nat.reduceLeDiff, reduceCtorEq]
 (apply d_callx (hs14); (case hf => rfl); (case hq => (simp only [vm,  reduceIte, Nat.reduceEqDiff, reduceCtorEq]; rfl)); (case hvs => rfl); (case hL => (simp only [vm, R.toL, R1.toL, rcsToL, RC.toL, siteN, reduceIte, Nat.reduceAdd, Nat.reduceMul, reduceCtorEq]; rfl)); (case hfr => (simp only [vm, vr,  reduceIte, Nat.reduceEqDiff, reduceCtorEq]; try rfl)))
 (apply d_call2 (hs12); (case hf => rfl); (case hq => (simp only [vm, vr,  reduceIte, Nat.reduceEqDiff, reduceCtorEq]; rfl)); (case hvs => rfl))
 simp only [vm, vr,  reduceIte, Nat.reduceEqDiff, reduceCtorEq]
 (refine draw_ok (by decide +kernel) (hK _ ?_); clear hK; clear K)
 refine c_reg fun K hK => ?_
 simp only [vm, vr,  q3, reduceIte, Nat.reduceEqDiff, Nat.reduceAdd, Nat.reduceLeDiff, reduceCtorEq]
 (apply s_call (hs15); (case hf => rfl); (case hq => (simp only [vm,  reduceIte, Nat.reduceEqDiff, reduceCtorEq]; rfl)); (case hvs => rfl))
 simp only [vm, vr,  reduceIte, Nat.reduceEqDiff, reduceCtorEq]
 (refine hK _ ?_; clear hK K)
 refine vcode_cut (fun _ : Unit => [(3, L.own 3 0), (4, L.own 4 0), (5, L.own 5 0), (6, L.p (V.b false)), (7, L.own 7 0), (8, L.p (V.sl (List.map nn LW))), (9, L.p (nn EW)), (10, L.p (V.sl (List.map fsV MF))), (11, L.p (nn GF)), (12, L.p (nn (cE1 t S)))]) (fun _ => [(Key.b 7, M.box 2), (Key.c 7 0, M.cell (L.p (V.sl (S.map nn)))), (Key.c 7 1, M.cell (L.p (V.sl (X.map p2)))), (Key.b 5, M.box 3), (Key.c 5 0, M.cell (L.p (V.sl (S.map nn)))), (Key.c 5 1, M.cell (L.p (V.sl (X.map p2)))), (Key.c 5 2, M.cell (L.p (fsV F))), (Key.b 4, M.box 2), (Key.c 4 0, M.cell (L.p (V.sl (x.ents.map p2)))), (Key.c 4 1, M.cell (L.p (V.sl (x.tars.map p2)))), (Key.b 3, M.box 3), (Key.c 3 0, M.cell (L.p (nn t.water))), (Key.c 3 1, M.cell (L.p (nn t.air))), (Key.c 3 2, M.cell (L.p (V.sl (t.banks.map bnkV))))]) (fun _ => True) ?_ ?_
 ·
  rintro ⟨⟩ _
  refine vcode_cut (fun _ : Unit => [(3, L.own 3 0), (4, L.own 4 0), (5, L.own 5 0), (6, L.p (V.b false)), (7, L.own 7 0), (8, L.p (V.sl (List.map nn LW))), (9, L.p (nn EW)), (10, L.p (V.sl (List.map fsV MF))), (11, L.p (nn GF)), (12, L.p (nn (wfE t S F)))]) (fun _ => [(Key.b 7, M.box 2), (Key.c 7 0, M.cell (L.p (V.sl (S.map nn)))), (Key.c 7 1, M.cell (L.p (V.sl (X.map p2)))), (Key.b 5, M.box 3), (Key.c 5 0, M.cell (L.p (V.sl (S.map nn)))), (Key.c 5 1, M.cell (L.p (V.sl (X.map p2)))), (Key.c 5 2, M.cell (L.p (fsV F))), (Key.b 4, M.box 2), (Key.c 4 0, M.cell (L.p (V.sl (x.ents.map p2)))), (Key.c 4 1, M.cell (L.p (V.sl (x.tars.map p2)))), (Key.b 3, M.box 3), (Key.c 3 0, M.cell (L.p (nn t.water))), (Key.c 3 1, M.cell (L.p (nn t.air))), (Key.c 3 2, M.cell (L.p (V.sl (t.banks.map bnkV))))]) (fun _ => True) ?_ ?_
  ·
   rintro ⟨⟩ _
   refine vcode_cut (fun _ : Unit => [(3, L.own 3 0), (4, L.own 4 0), (5, L.own 5 0), (6, L.p (V.b false)), (7, L.own 7 0), (8, L.p (V.sl (List.map nn LW))), (9, L.p (nn EW)), (10, L.p (V.sl (List.map fsV MF))), (11, L.p (nn GF)), (12, L.p (nn (wfE t S F)))]) (fun _ => [(Key.b 7, M.box 2), (Key.c 7 0, M.cell (L.p (V.sl (S.map nn)))), (Key.c 7 1, M.cell (L.p (V.sl (X.map p2)))), (Key.b 5, M.box 3), (Key.c 5 0, M.cell (L.p (V.sl (S.map nn)))), (Key.c 5 1, M.cell (L.p (V.sl (X.map p2)))), (Key.c 5 2, M.cell (L.p (fsV F))), (Key.b 4, M.box 2), (Key.c 4 0, M.cell (L.p (V.sl (x.ents.map p2)))), (Key.c 4 1, M.cell (L.p (V.sl (x.tars.map p2)))), (Key.b 3, M.box 3), (Key.c 3 0, M.cell (L.p (nn t.water))), (Key.c 3 1, M.cell (L.p (nn t.air))), (Key.c 3 2, M.cell (L.p (V.sl (t.banks.map bnkV))))]) (fun _ => True) ?_ ?_
   ·
    rintro ⟨⟩ _
    by_cases c : opE t x = 0
    ·
     have k1 : (opE t x == 0) = true := beq_iff_eq.2 c
     obtain ⟨ht, hx⟩ := op_ok c
     have htl := ht.len
     have hs21 := spec21 t x S X ht (by omega) (by omega) (by omega)
     by_cases z : meE t x S X = 0
     ·
      have k2 : (meE t x S X != 0) = false := by rw [bne_eq_false_iff_eq]; exact z
      obtain ⟨rfl, rfl⟩ := hF2 c z
      obtain ⟨cs1, cs2⟩ : S.length = x.ents.length ∧ X.length = x.ents.length := by
       unfold meE at z
       by_cases cs : S.length = x.ents.length ∧ X.length = x.ents.length
       ·
        exact cs
       ·
        rw [if_neg cs] at z; cases z
      have hs22 := spec22 t x S X ht hx cs1 cs2 (meE_sets ht z)
      have hml := min_len (t := t) (x := x) (S := S) (X := X) htl.2
      have hs23 := spec23 (minF t x S X) (by omega) (fun G hG => by have := allL_len (min_mem hG).1; omega)
      by_cases y : (minF t x S X).length = 0
      ·
       have k3 : (((minF t x S X).length : Int) == 0) = true := by rw [beq_iff_eq]; omega
       rw [if_pos y]
       refine c_assoc ?_
       refine c_reg fun K hK => ?_
       simp only [vm, vr, q3, reduceIte, Nat.reduceEqDiff, Nat.reduceAdd, Nat.reduceLeDiff, reduceCtorEq]
       (apply s_call (hs20); (case hf => rfl); (case hq => (simp only [vm, reduceIte, Nat.reduceEqDiff]; rfl)); (case hvs => rfl))
       simp only [vm, vr, reduceIte, Nat.reduceEqDiff]
       (refine hK _ ?_; clear hK K)
       refine c_assoc ?_
       refine c_reg fun K hK => ?_
       simp only [vm, vr, k1, reduceIte, Nat.reduceEqDiff]
       (refine hK _ ?_; clear hK K)
       refine c_if _ rfl (fun hb3 => ?_) (fun hb3 => ?_) <;> (have hp3 := hb3; try simp only [] at hp3)
       refine c_reg fun K hK => ?_
       simp only [vm, vr, q3, reduceIte, Nat.reduceEqDiff, Nat.reduceAdd, Nat.reduceLeDiff, reduceCtorEq]
       (apply s_call (hs21); (case hf => rfl); (case hq => (simp only [vm, reduceIte, Nat.reduceEqDiff]; rfl)); (case hvs => rfl))
       simp only [vm, vr, reduceIte, Nat.reduceEqDiff]
       (refine hK _ ?_; clear hK K)
       refine c_assoc ?_
       refine c_reg fun K hK => ?_
       simp only [vm, vr, k2, reduceIte, Nat.reduceEqDiff]
       (refine hK _ ?_; clear hK K)
       refine c_if _ rfl (fun hb4 => ?_) (fun hb4 => ?_) <;> (have hp4 := hb4; try simp only [] at hp4)
       cases hb4
       refine c_skip ?_
       refine c_reg fun K hK => ?_
       simp only [vm, vr, q3, reduceIte, Nat.reduceEqDiff, Nat.reduceAdd, Nat.reduceLeDiff, reduceCtorEq]
       (apply s_call (hs22); (case hf => rfl); (case hq => (simp only [vm, reduceIte, Nat.reduceEqDiff]; rfl)); (case hvs => rfl))
       simp only [vm, vr, reduceIte, Nat.reduceEqDiff]
       (refine hK _ ?_; clear hK K)
       refine c_assoc ?_
       refine c_reg fun K hK => ?_
       simp only [vm, vr, q3, k3, reduceIte, Nat.reduceEqDiff]
       (refine hK _ ?_; clear hK K)
       refine c_if _ rfl (fun hb5 => ?_) (fun hb5 => ?_) <;> (have hp5 := hb5; try simp only [] at hp5)
       refine c_assoc ?_
       refine c_reg fun K hK => ?_
       simp only [vm, vr, q3, k3, beq_self_eq_true, reduceIte, Nat.reduceEqDiff]
       (refine hK _ ?_; clear hK K)
       refine c_ret ?_
       simp only [vm, vr, reduceIte, Nat.reduceEqDiff]
       cases hb5
       cases hb3
      ·
       have k3 : (((minF t x S X).length : Int) == 0) = false := by rw [beq_eq_false_iff_ne]; omega
       rw [if_neg y]
       refine c_assoc ?_
       refine c_reg fun K hK => ?_
       simp only [vm, vr, q3, reduceIte, Nat.reduceEqDiff, Nat.reduceAdd, Nat.reduceLeDiff, reduceCtorEq]
       (apply s_call (hs20); (case hf => rfl); (case hq => (simp only [vm, reduceIte, Nat.reduceEqDiff]; rfl)); (case hvs => rfl))
       simp only [vm, vr, reduceIte, Nat.reduceEqDiff]
       (refine hK _ ?_; clear hK K)
       refine c_assoc ?_
       refine c_reg fun K hK => ?_
       simp only [vm, vr, k1, reduceIte, Nat.reduceEqDiff]
       (refine hK _ ?_; clear hK K)
       refine c_if _ rfl (fun hb3 => ?_) (fun hb3 => ?_) <;> (have hp3 := hb3; try simp only [] at hp3)
       refine c_reg fun K hK => ?_
       simp only [vm, vr, q3, reduceIte, Nat.reduceEqDiff, Nat.reduceAdd, Nat.reduceLeDiff, reduceCtorEq]
       (apply s_call (hs21); (case hf => rfl); (case hq => (simp only [vm, reduceIte, Nat.reduceEqDiff]; rfl)); (case hvs => rfl))
       simp only [vm, vr, reduceIte, Nat.reduceEqDiff]
       (refine hK _ ?_; clear hK K)
       refine c_assoc ?_
       refine c_reg fun K hK => ?_
       simp only [vm, vr, k2, reduceIte, Nat.reduceEqDiff]
       (refine hK _ ?_; clear hK K)
       refine c_if _ rfl (fun hb4 => ?_) (fun hb4 => ?_) <;> (have hp4 := hb4; try simp only [] at hp4)
       cases hb4
       refine c_skip ?_
       refine c_reg fun K hK => ?_
       simp only [vm, vr, q3, reduceIte, Nat.reduceEqDiff, Nat.reduceAdd, Nat.reduceLeDiff, reduceCtorEq]
       (apply s_call (hs22); (case hf => rfl); (case hq => (simp only [vm, reduceIte, Nat.reduceEqDiff]; rfl)); (case hvs => rfl))
       simp only [vm, vr, reduceIte, Nat.reduceEqDiff]
       (refine hK _ ?_; clear hK K)
       refine c_assoc ?_
       refine c_reg fun K hK => ?_
       simp only [vm, vr, q3, k3, reduceIte, Nat.reduceEqDiff]
       (refine hK _ ?_; clear hK K)
       refine c_if _ rfl (fun hb5 => ?_) (fun hb5 => ?_) <;> (have hp5 := hb5; try simp only [] at hp5)
       cases hb5
       refine c_skip ?_
       refine c_reg fun K hK => ?_
       simp only [vm, vr, beq_self_eq_true, reduceIte, Nat.reduceEqDiff]
       (apply s_call (hs23); (case hf => rfl); (case hq => (simp only [vm, reduceIte, Nat.reduceEqDiff]; rfl)); (case hvs => rfl))
       simp only [vm, vr, reduceIte, Nat.reduceEqDiff]
       (refine hK _ ?_; clear hK K)
       refine c_ret1 ?_
       simp only [vm, vr, reduceIte, Nat.reduceEqDiff]
       cases hb3
     ·
      have k2 : (meE t x S X != 0) = true := bne_iff_ne.2 z
      obtain ⟨rfl, rfl⟩ := hF1 c z
      refine c_assoc ?_
      refine c_reg fun K hK => ?_
      simp only [vm, vr, q3, reduceIte, Nat.reduceEqDiff, Nat.reduceAdd, Nat.reduceLeDiff, reduceCtorEq]
      (apply s_call (hs20); (case hf => rfl); (case hq => (simp only [vm, reduceIte, Nat.reduceEqDiff]; rfl)); (case hvs => rfl))
      simp only [vm, vr, reduceIte, Nat.reduceEqDiff]
      (refine hK _ ?_; clear hK K)
      refine c_assoc ?_
      refine c_reg fun K hK => ?_
      simp only [vm, vr, k1, reduceIte, Nat.reduceEqDiff]
      (refine hK _ ?_; clear hK K)
      refine c_if _ rfl (fun hb3 => ?_) (fun hb3 => ?_) <;> (have hp3 := hb3; try simp only [] at hp3)
      refine c_reg fun K hK => ?_
      simp only [vm, vr, q3, reduceIte, Nat.reduceEqDiff, Nat.reduceAdd, Nat.reduceLeDiff, reduceCtorEq]
      (apply s_call (hs21); (case hf => rfl); (case hq => (simp only [vm, reduceIte, Nat.reduceEqDiff]; rfl)); (case hvs => rfl))
      simp only [vm, vr, reduceIte, Nat.reduceEqDiff]
      (refine hK _ ?_; clear hK K)
      refine c_assoc ?_
      refine c_reg fun K hK => ?_
      simp only [vm, vr, k2, reduceIte, Nat.reduceEqDiff]
      (refine hK _ ?_; clear hK K)
      refine c_if _ rfl (fun hb4 => ?_) (fun hb4 => ?_) <;> (have hp4 := hb4; try simp only [] at hp4)
      refine c_assoc ?_
      refine c_reg fun K hK => ?_
      simp only [vm, vr, vp, q3, beq_self_eq_true, reduceIte, Nat.reduceEqDiff]
      (refine hK _ ?_; clear hK K)
      refine c_ret ?_
      simp only [vm, vr, reduceIte, Nat.reduceEqDiff]
      cases hb4
      cases hb3
    ·
     have k1 : (opE t x == 0) = false := beq_eq_false_iff_ne.2 c
     have k2 : (opE t x != 0) = true := bne_iff_ne.2 c
     obtain ⟨rfl, rfl⟩ := hF0 c
     refine c_assoc ?_
     refine c_reg fun K hK => ?_
     simp only [vm, vr, q3, reduceIte, Nat.reduceEqDiff, Nat.reduceAdd, Nat.reduceLeDiff, reduceCtorEq]
     (apply s_call (hs20); (case hf => rfl); (case hq => (simp only [vm, reduceIte, Nat.reduceEqDiff]; rfl)); (case hvs => rfl))
     simp only [vm, vr, reduceIte, Nat.reduceEqDiff]
     (refine hK _ ?_; clear hK K)
     refine c_assoc ?_
     refine c_reg fun K hK => ?_
     simp only [vm, vr, k1, reduceIte, Nat.reduceEqDiff]
     (refine hK _ ?_; clear hK K)
     refine c_if _ rfl (fun hb3 => ?_) (fun hb3 => ?_) <;> (have hp3 := hb3; try simp only [] at hp3)
     cases hb3
     refine c_skip ?_
     refine c_assoc ?_
     refine c_reg fun K hK => ?_
     simp only [vm, vr, k2, reduceIte, Nat.reduceEqDiff]
     (refine hK _ ?_; clear hK K)
     refine c_if _ rfl (fun hb4 => ?_) (fun hb4 => ?_) <;> (have hp4 := hb4; try simp only [] at hp4)
     refine c_assoc ?_
     refine c_reg fun K hK => ?_
     simp only [vm, vr, vp, q3, beq_self_eq_true, reduceIte, Nat.reduceEqDiff]
     (refine hK _ ?_; clear hK K)
     refine c_ret ?_
     simp only [vm, vr, reduceIte, Nat.reduceEqDiff]
     cases hb4
   ·
    by_cases c : wfE t S F = 0
    ·
     have k1 : (wfE t S F != 0) = false := by rw [bne_eq_false_iff_eq]; exact c
     have k2 : (wfE t S F == 0) = true := beq_iff_eq.2 c
     obtain ⟨rfl, rfl⟩ := hW0 c
     obtain ⟨c0, c1, c2⟩ := wf_ok c
     have ht := tab_ok c0
     obtain ⟨hn, hso⟩ := pleE_ok ht c1
     have hin := (fesE_ok c2).2.1
     have hs19 := spec19 S F t.banks.length ht.len.2 hn.2 hin (by omega) hso
     have hwl := witL_len (S := S) (F := F) (n := S.length)
     generalize witL S F S.length = Z at *
     refine c_reg fun K hK => ?_
     simp only [vm, vr, q3, k1, k2, bne_self_eq_false, reduceIte, Nat.reduceEqDiff, Nat.reduceAdd, Nat.reduceLeDiff, reduceCtorEq]
     (apply s_call (hs19); (case hf => rfl); (case hq => (simp only [vm, reduceIte, Nat.reduceEqDiff]; rfl)); (case hvs => rfl))
     simp only [vm, vr, reduceIte, Nat.reduceEqDiff]
     (apply s_call (spec18 _ _ ?s13502x1); (case hf => rfl); (case hq => (simp only [vm, reduceIte, Nat.reduceEqDiff]; rfl)); (case hvs => rfl); (case s13502x1 => first | assumption | omega | (simp; done) | (simp; omega)))
     simp only [vm, vr, beq_self_eq_true, reduceIte, Nat.reduceEqDiff]
     (refine hK _ ?_; clear hK K)
     refine vcode_if _ rfl (fun hb3 => ?_) (fun hb3 => ?_) <;> (have hp3 := hb3; try simp only [] at hp3)
     cases hb3
     refine c_skip1 ?_
     simp only [thenV_n]
     refine ⟨(), ?_, trivial⟩
     ((show Wk _ _ _; simp only [vm, vmk, reduceIte, Nat.reduceEqDiff, Nat.reduceAdd, Nat.reduceLT, reduceCtorEq]; (try simp (disch := omega) only [wr64]); try omega))
    ·
     have k1 : (wfE t S F != 0) = true := bne_iff_ne.2 c
     have k2 : (wfE t S F == 0) = false := beq_eq_false_iff_ne.2 c
     obtain ⟨rfl, rfl⟩ := hW1 c
     refine c_reg fun K hK => ?_
     simp only [vm, vr, vp, q3, k1, k2, bne_self_eq_false, reduceIte, Nat.reduceEqDiff]
     (refine hK _ ?_; clear hK K)
     refine vcode_if _ rfl (fun hb3 => ?_) (fun hb3 => ?_) <;> (have hp3 := hb3; try simp only [] at hp3)
     cases hb3
     refine c_skip1 ?_
     simp only [thenV_n]
     refine ⟨(), ?_, trivial⟩
     ((show Wk _ _ _; simp only [vm, vmk, reduceIte, Nat.reduceEqDiff, Nat.reduceAdd, Nat.reduceLT, reduceCtorEq]; (try simp (disch := omega) only [wr64]); try omega))
  ·
   by_cases c : cE1 t S = 0
   ·
    have k1 : (cE1 t S == 0) = true := beq_iff_eq.2 c
    have e : wfE t S F = fesE t F := by rw [wf_cE, if_neg (fun k => k c)]
    have hs17 := spec17 t F (by omega) (by omega)
    refine c_reg fun K hK => ?_
    simp only [vm, vr, k1, reduceIte, Nat.reduceEqDiff]
    (refine hK _ ?_; clear hK K)
    refine vcode_if _ rfl (fun hb3 => ?_) (fun hb3 => ?_) <;> (have hp3 := hb3; try simp only [] at hp3)
    refine c_reg1 fun K hK => ?_
    simp only [vm, vr, q3, reduceIte, Nat.reduceEqDiff, Nat.reduceAdd, Nat.reduceLeDiff, reduceCtorEq]
    (apply s_call (hs17); (case hf => rfl); (case hq => (simp only [vm, reduceIte, Nat.reduceEqDiff]; rfl)); (case hvs => rfl))
    simp only [vm, vr, reduceIte, Nat.reduceEqDiff]
    (refine hK _ ?_; clear hK K)
    simp only [thenV_n]
    rotate_left
    cases hb3
    refine ⟨(), ?_, trivial⟩
    rw [e]
    ((show Wk _ _ _; simp only [vm, vmk, reduceIte, Nat.reduceEqDiff, Nat.reduceAdd, Nat.reduceLT, reduceCtorEq]; (try simp (disch := omega) only [wr64]); try omega))
   ·
    have k1 : (cE1 t S == 0) = false := beq_eq_false_iff_ne.2 c
    have e : wfE t S F = cE1 t S := by rw [wf_cE, if_pos c]
    refine c_reg fun K hK => ?_
    simp only [vm, vr, k1, reduceIte, Nat.reduceEqDiff]
    (refine hK _ ?_; clear hK K)
    refine vcode_if _ rfl (fun hb3 => ?_) (fun hb3 => ?_) <;> (have hp3 := hb3; try simp only [] at hp3)
    cases hb3
    refine c_skip1 ?_
    simp only [thenV_n]
    refine ⟨(), ?_, trivial⟩
    rw [e]
    ((show Wk _ _ _; simp only [vm, vmk, reduceIte, Nat.reduceEqDiff, Nat.reduceAdd, Nat.reduceLT, reduceCtorEq]; (try simp (disch := omega) only [wr64]); try omega))
 ·
  by_cases c : (tabE t).2 = 0
  ·
   have k1 : ((tabE t).2 == 0) = true := beq_iff_eq.2 c
   have ht := tab_ok c
   have e : cE1 t S = pleE t S := by unfold cE1; rw [if_neg (fun k => k c)]
   have hs16 := spec16 t S ht (by omega)
   refine c_reg fun K hK => ?_
   simp only [vm, vr, k1, reduceIte, Nat.reduceEqDiff, reduceCtorEq]
   (refine hK _ ?_; clear hK K)
   refine vcode_if _ rfl (fun hb3 => ?_) (fun hb3 => ?_) <;> (have hp3 := hb3; try simp only [] at hp3)
   refine c_reg1 fun K hK => ?_
   simp only [vm, vr, q3, reduceIte, Nat.reduceEqDiff, Nat.reduceAdd, Nat.reduceLeDiff, reduceCtorEq]
   (apply s_call (hs16); (case hf => rfl); (case hq => (simp only [vm, reduceIte, Nat.reduceEqDiff, reduceCtorEq]; rfl)); (case hvs => rfl))
   simp only [vm, vr, reduceIte, Nat.reduceEqDiff, reduceCtorEq]
   (refine hK _ ?_; clear hK K)
   simp only [thenV_n]
   rotate_left
   cases hb3
   refine ⟨(), ?_, trivial⟩
   rw [e]
   ((show Wk _ _ _; simp only [vm, vmk, reduceIte, Nat.reduceEqDiff, Nat.reduceAdd, Nat.reduceLT, reduceCtorEq]; (try simp (disch := omega) only [wr64]); try omega))
  ·
   have k1 : ((tabE t).2 == 0) = false := beq_eq_false_iff_ne.2 c
   have e : cE1 t S = (tabE t).2 := by unfold cE1; rw [if_pos c]
   refine c_reg fun K hK => ?_
   simp only [vm, vr, k1, reduceIte, Nat.reduceEqDiff, reduceCtorEq]
   (refine hK _ ?_; clear hK K)
   refine vcode_if _ rfl (fun hb3 => ?_) (fun hb3 => ?_) <;> (have hp3 := hb3; try simp only [] at hp3)
   cases hb3
   refine c_skip1 ?_
   simp only [thenV_n]
   refine ⟨(), ?_, trivial⟩
   rw [e]
   ((show Wk _ _ _; simp only [vm, vmk, reduceIte, Nat.reduceEqDiff, Nat.reduceAdd, Nat.reduceLT, reduceCtorEq]; (try simp (disch := omega) only [wr64]); try omega))
theorem law_faulty : Sp0 3 [ctV t, csV x, .agg [.sl (S.map nn), .sl (X.map p2), fsV F]] (R.v (.b true)) := by
 cases h : fewB t x with
 | false => exact clf_far t x S X F hs5 h
 | true =>
  cases h2 : decide ((S.length : Int) ≤ 14) with
  | false => exact clf_shr t x S X F hs5 h h2
  | true =>
   cases h3 : decide ((X.length : Int) > 14) with
   | true => exact clf_exi t x S X F hs5 h h2 h3
   | false =>
    cases h4 : decide ((F.length : Int) > 6) with
    | true => exact clf_flt t x S X F hs5 h h2 h3 h4
    | false => exact clf_main t x S X F hs5 h h2 h3 h4
end
end Go.Vm
