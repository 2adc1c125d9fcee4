import Derived.Test.YtfmkfaohhpmpaaaGreatDoorVmBC
import Derived.Test.YtfmkfaohhpmpaaaGreatDoorWcLu0
import Derived.Test.YtfmkfaohhpmpaaaGreatDoorWcCh
set_option linter.all false
namespace Go.Vm
open Go.Proofs
set_option maxRecDepth 20000
set_option maxHeartbeats 8000000
--DEF Q = q4
--DEF ARGS = [ctV t, csV x, .agg [nn c.op, nn c.ch, .sl (P.map lsV), .sl (l.map nn)]]
--DEF TAB = nn t.water; nn t.air; V.sl (t.banks.map bnkV)
--DEF STR = V.sl (x.ents.map p2); V.sl (x.tars.map p2)
--DEF OFF = nn c.op; nn c.ch; V.sl (P.map lsV); V.sl (l.map nn)
/-! the law CoolBounded: plain -/
/-- A bound that is accepted is below what any permitted sets cost. -/
theorem bnd_le {t : CTab} {x : CStrip} {c : CPri} {P : List (List Int)} (hN : 0 < x.ents.length) (hb : badB t x c P = false) {l : Nat → Nat} (hl : ∀ i, i < x.ents.length → l i ∈ pmtS t x i) : minOf (fun a => vAt P 0 a) (pmtS t x 0) ≤ cosF (ownC c) (chgC c) l x.ents.length := by
 have hA : ∀ i, i < x.ents.length → badA t x c P i (l i) = false := fun i hi => by
  unfold badB at hb
  rw [List.any_eq_false] at hb
  have h1 := hb i (List.mem_range.2 hi)
  rw [Bool.not_eq_true] at h1
  unfold badI at h1
  rw [List.any_eq_false] at h1
  have h2 := h1 (l i) (hl i hi)
  rwa [Bool.not_eq_true] at h2
 have key : ∀ i, i < x.ents.length → vAt P 0 (l 0) ≤ cosF (ownC c) (chgC c) l (i + 1) - ownC c (l i) + vAt P i (l i) := by
  intro i
  induction i with
  | zero => intro _; simp only [cosF, if_pos trivial]; omega
  | succ i ih =>
   intro hi
   have h1 := ih (by omega)
   have h2 := hA i (by omega)
   unfold badA at h2
   rw [if_neg (by omega), List.any_eq_false] at h2
   have h3 := h2 (l (i + 1)) (hl _ hi)
   rw [decide_eq_true_eq] at h3
   have h4 : cosF (ownC c) (chgC c) l (i + 1 + 1) = cosF (ownC c) (chgC c) l (i + 1) + ownC c (l (i + 1)) + chgC c (l i) (l (i + 1)) := by
    simp only [cosF, if_neg (show ¬ i + 1 = 0 by omega), Nat.add_sub_cancel]
   omega
 have h1 := minOf_le (f := fun a => vAt P 0 a) (hl 0 hN)
 have h2 := key (x.ents.length - 1) (by omega)
 have h3 := hA (x.ents.length - 1) (by omega)
 rw [show x.ents.length - 1 + 1 = x.ents.length by omega] at h2
 unfold badA at h3
 rw [if_pos (by omega), decide_eq_false_iff_not] at h3
 omega
/-- What BoundOf says, and what it means. -/
theorem bnd_of (t : CTab) (x : CStrip) (c : CPri) (P : List (List Int)) (hf : P.flatten.length < 1000000) (hP : P.length < 1000000) (h0 : opE t x = 0) (hc : priE c = 0) : ∃ n E : Int, Sp0 8 [ctV t, csV x, boV c P] (R.v2 (nn n) (nn E)) ∧ (E = 0 → ∀ l : Nat → Nat, (∀ i, i < x.ents.length → l i ∈ pmtS t x i) → n ≤ cosF (ownC c) (chgC c) l x.ents.length) := by
 obtain ⟨ht, hx⟩ := op_ok h0
 have hxl := hx.len
 by_cases h : bdE t x c P = 0
 ·
  have hb := bo_main t x c P hf h0 h
  by_cases q : badB t x c P = true
  ·
   rw [if_pos q] at hb
   exact ⟨0, 19, hb, fun e => by cases e⟩
  ·
   rw [if_neg q] at hb
   exact ⟨_, 0, hb, fun _ l hl => bnd_le (by omega) (by simpa using q) hl⟩
 ·
  exact ⟨0, _, bo_err t x c P hP hf h0 h, fun e => (h e).elim⟩
theorem yes_pmt {t : CTab} {x : CStrip} {l : List Int} (h : wiE t x l = 0) {i : Nat} (hi : i < x.ents.length) (hy : (anL t x l l.length).getD i 0 = 2) : (l.getD i 0).toNat ∈ pmtS t x i := by
 obtain ⟨ht, hx, hl, hs⟩ := wi_ok h
 obtain ⟨s, e, s1, s2, s3⟩ := sets_at ht hs (i := i) (by omega)
 have ha : ansA t x i s = 2 := by
  rw [List.getD_eq_getElem?_getD, anL, List.getElem?_map, List.getElem?_range (by omega)] at hy
  have hy2 : ansV (pasR t (l.getD i 0).toNat (x.ents.getD i default)) (x.tars.getD i default) = 2 := hy
  rw [e, Int.toNat_natCast] at hy2
  exact hy2
 have hm : s ∈ rchS t x i := by
  unfold rchS
  rw [List.mem_filter]
  refine ⟨?_, by rw [ha]; rfl⟩
  unfold setL preL
  rw [List.mem_filter, List.mem_range]
  exact ⟨s2, s3⟩
 rw [e, Int.toNat_natCast]
 unfold pmtS
 rw [if_pos (List.length_pos_of_mem hm)]
 exact hm
section
variable (t : CTab) (x : CStrip) (c : CPri) (P : List (List Int)) (l : List Int) (hs5 : Sp0 5 [] (R.v (.b true)))
include hs5
theorem clv_far (h : fewB t x = false) : Sp0 4 [ctV t, csV x, .agg [nn c.op, nn c.ch, .sl (P.map lsV), .sl (l.map nn)]] (R.v (.b true)) := by
 refine spec_of mixed (fun _ _ _ h => h) Tryz.func4 (by decide +kernel) rfl (rs := _) rfl (by rfl) rfl (by simp [Tryz.f4]) (by decide +kernel) ?_; simp only [argsG, Nat.zero_add, Nat.reduceAdd]
 refine c_reg fun K hK => ?_
 simp only [vm, vr, reduceIte, Nat.reduceEqDiff, Nat.reduceAdd, reduceCtorEq]
 refine need_by (by first | assumption | omega | (simp; done) | (simp; omega)) ?_
 refine need_by (by first | assumption | omega | (simp; done) | (simp; omega)) ?_
 refine need_by (by first | assumption | omega | (simp; done) | (simp; omega)) ?_
 (refine hK _ ?_; clear hK K)
 refine c_assoc ?_
 refine c_reg fun K hK => ?_
 (apply s_call (hs5); (case hf => rfl); (case hq => (simp only [vm]; rfl)); (case hvs => rfl))
 simp only [vm, vr, reduceIte, Nat.reduceEqDiff, reduceCtorEq]
 (refine hK _ ?_; clear hK K)
 refine c_if _ rfl (fun hb1 => ?_) (fun hb1 => ?_) <;> (have hp1 := hb1; try simp only [] at hp1)
 cases hb1
 refine c_skip ?_
 refine c_assoc ?_
 refine c_reg fun K hK => ?_
 simp only [vm, vr, q4, reduceIte, Nat.reduceEqDiff, Nat.reduceAdd, Nat.reduceLeDiff, reduceCtorEq]
 (apply s_call (spec6 _ _); (case hf => rfl); (case hq => (simp only [vm, reduceIte, Nat.reduceEqDiff, reduceCtorEq]; rfl)); (case hvs => rfl))
 simp only [vm, vr, h, reduceIte, Nat.reduceEqDiff, reduceCtorEq]
 (refine hK _ ?_; clear hK K)
 refine c_if _ rfl (fun hb2 => ?_) (fun hb2 => ?_) <;> (have hp2 := hb2; try simp only [] at hp2)
 refine c_assoc ?_
 refine c_reg fun K hK => ?_
 simp only [vm, vr]
 (refine hK _ ?_; clear hK K)
 refine c_ret ?_
 simp only [vm, vr, reduceIte, Nat.reduceEqDiff, reduceCtorEq]
 cases hb2
theorem clv_long (h : fewB t x = true) (h2 : fvB P = false) : Sp0 4 [ctV t, csV x, .agg [nn c.op, nn c.ch, .sl (P.map lsV), .sl (l.map nn)]] (R.v (.b true)) := by
 refine spec_of mixed (fun _ _ _ h => h) Tryz.func4 (by decide +kernel) rfl (rs := _) rfl (by rfl) rfl (by simp [Tryz.f4]) (by decide +kernel) ?_; simp only [argsG, Nat.zero_add, Nat.reduceAdd]
 refine c_reg fun K hK => ?_
 simp only [vm, vr, reduceIte, Nat.reduceEqDiff, Nat.reduceAdd, reduceCtorEq]
 refine need_by (by first | assumption | omega | (simp; done) | (simp; omega)) ?_
 refine need_by (by first | assumption | omega | (simp; done) | (simp; omega)) ?_
 refine need_by (by first | assumption | omega | (simp; done) | (simp; omega)) ?_
 (refine hK _ ?_; clear hK K)
 refine c_assoc ?_
 refine c_reg fun K hK => ?_
 (apply s_call (hs5); (case hf => rfl); (case hq => (simp only [vm]; rfl)); (case hvs => rfl))
 simp only [vm, vr, reduceIte, Nat.reduceEqDiff, reduceCtorEq]
 (refine hK _ ?_; clear hK K)
 refine c_if _ rfl (fun hb1 => ?_) (fun hb1 => ?_) <;> (have hp1 := hb1; try simp only [] at hp1)
 cases hb1
 refine c_skip ?_
 refine c_assoc ?_
 refine c_reg fun K hK => ?_
 simp only [vm, vr, q4, reduceIte, Nat.reduceEqDiff, Nat.reduceAdd, Nat.reduceLeDiff, reduceCtorEq]
 (apply s_call (spec6 _ _); (case hf => rfl); (case hq => (simp only [vm, reduceIte, Nat.reduceEqDiff, reduceCtorEq]; rfl)); (case hvs => rfl))
 simp only [vm, vr, q4, h, reduceIte, Nat.reduceEqDiff, Nat.reduceAdd, Nat.reduceLeDiff, reduceCtorEq]
 (apply s_call (spec7 _ _); (case hf => rfl); (case hq => (simp only [vm, reduceIte, Nat.reduceEqDiff, reduceCtorEq]; rfl)); (case hvs => rfl))
 simp only [vm, vr, h2, reduceIte, Nat.reduceEqDiff, reduceCtorEq]
 (refine hK _ ?_; clear hK K)
 refine c_if _ rfl (fun hb2 => ?_) (fun hb2 => ?_) <;> (have hp2 := hb2; try simp only [] at hp2)
 refine c_assoc ?_
 refine c_reg fun K hK => ?_
 simp only [vm, vr]
 (refine hK _ ?_; clear hK K)
 refine c_ret ?_
 simp only [vm, vr, reduceIte, Nat.reduceEqDiff, reduceCtorEq]
 cases hb2
theorem clv_shr (h : fewB t x = true) (h2 : fvB P = true) (h3 : decide ((l.length : Int) ≤ 14) = false) : Sp0 4 [ctV t, csV x, .agg [nn c.op, nn c.ch, .sl (P.map lsV), .sl (l.map nn)]] (R.v (.b true)) := by
 refine spec_of mixed (fun _ _ _ h => h) Tryz.func4 (by decide +kernel) rfl (rs := _) rfl (by rfl) rfl (by simp [Tryz.f4]) (by decide +kernel) ?_; simp only [argsG, Nat.zero_add, Nat.reduceAdd]
 refine c_reg fun K hK => ?_
 simp only [vm, vr, reduceIte, Nat.reduceEqDiff, Nat.reduceAdd, reduceCtorEq]
 refine need_by (by first | assumption | omega | (simp; done) | (simp; omega)) ?_
 refine need_by (by first | assumption | omega | (simp; done) | (simp; omega)) ?_
 refine need_by (by first | assumption | omega | (simp; done) | (simp; omega)) ?_
 (refine hK _ ?_; clear hK K)
 refine c_assoc ?_
 refine c_reg fun K hK => ?_
 (apply s_call (hs5); (case hf => rfl); (case hq => (simp only [vm]; rfl)); (case hvs => rfl))
 simp only [vm, vr, reduceIte, Nat.reduceEqDiff, reduceCtorEq]
 (refine hK _ ?_; clear hK K)
 refine c_if _ rfl (fun hb1 => ?_) (fun hb1 => ?_) <;> (have hp1 := hb1; try simp only [] at hp1)
 cases hb1
 refine c_skip ?_
 refine c_assoc ?_
 refine c_reg fun K hK => ?_
 simp only [vm, vr, q4, reduceIte, Nat.reduceEqDiff, Nat.reduceAdd, Nat.reduceLeDiff, reduceCtorEq]
 (apply s_call (spec6 _ _); (case hf => rfl); (case hq => (simp only [vm, reduceIte, Nat.reduceEqDiff, reduceCtorEq]; rfl)); (case hvs => rfl))
 simp only [vm, vr, q4, h, reduceIte, Nat.reduceEqDiff, Nat.reduceAdd, Nat.reduceLeDiff, reduceCtorEq]
 (apply s_call (spec7 _ _); (case hf => rfl); (case hq => (simp only [vm, reduceIte, Nat.reduceEqDiff, reduceCtorEq]; rfl)); (case hvs => rfl))
 simp only [vm, vr, q4, h2, reduceIte, Nat.reduceEqDiff, Nat.reduceAdd, Nat.reduceLeDiff, reduceCtorEq]
 (apply s_call (spec15 _); (case hf => rfl); (case hq => (simp only [vm, reduceIte, Nat.reduceEqDiff, reduceCtorEq]; rfl)); (case hvs => rfl))
 simp only [vm, vr, h3, reduceIte, Nat.reduceEqDiff, reduceCtorEq]
 (refine hK _ ?_; clear hK K)
 refine c_if _ rfl (fun hb2 => ?_) (fun hb2 => ?_) <;> (have hp2 := hb2; try simp only [] at hp2)
 refine c_assoc ?_
 refine c_reg fun K hK => ?_
 simp only [vm, vr]
 (refine hK _ ?_; clear hK K)
 refine c_ret ?_
 simp only [vm, vr, reduceIte, Nat.reduceEqDiff, reduceCtorEq]
 cases hb2
theorem clv_op (h : fewB t x = true) (h2 : fvB P = true) (h3 : decide ((l.length : Int) ≤ 14) = true) (h0 : opE t x ≠ 0) : Sp0 4 [ctV t, csV x, .agg [nn c.op, nn c.ch, .sl (P.map lsV), .sl (l.map nn)]] (R.v (.b true)) := by
 obtain ⟨f1, f2, f3⟩ := few_ok h
 have hs12 := spec12 t x (by omega) (by omega) (by omega)
 rw [both_op] at hs12
 have k2 : (opE t x != 0) = true := bne_iff_ne.2 h0
 generalize opE t x = E at *
 refine spec_of mixed (fun _ _ _ h => h) Tryz.func4 (by decide +kernel) rfl (rs := _) rfl (by rfl) rfl (by simp [Tryz.f4]) (by decide +kernel) ?_; simp only [argsG, Nat.zero_add, Nat.reduceAdd]
 refine c_reg fun K hK => ?_
 simp only [vm, vr, reduceIte, Nat.reduceEqDiff, Nat.reduceAdd, reduceCtorEq]
 refine need_by (by first | assumption | omega | (simp; done) | (simp; omega)) ?_
 refine need_by (by first | assumption | omega | (simp; done) | (simp; omega)) ?_
 refine need_by (by first | assumption | omega | (simp; done) | (simp; omega)) ?_
 (refine hK _ ?_; clear hK K)
 refine c_assoc ?_
 refine c_reg fun K hK => ?_
 (apply s_call (hs5); (case hf => rfl); (case hq => (simp only [vm]; rfl)); (case hvs => rfl))
 simp only [vm, vr, reduceIte, Nat.reduceEqDiff, reduceCtorEq]
 (refine hK _ ?_; clear hK K)
 refine c_if _ rfl (fun hb1 => ?_) (fun hb1 => ?_) <;> (have hp1 := hb1; try simp only [] at hp1)
 cases hb1
 refine c_skip ?_
 refine c_assoc ?_
 refine c_reg fun K hK => ?_
 simp only [vm, vr, q4, reduceIte, Nat.reduceEqDiff, Nat.reduceAdd, Nat.reduceLeDiff, reduceCtorEq]
 (apply s_call (spec6 _ _); (case hf => rfl); (case hq => (simp only [vm, reduceIte, Nat.reduceEqDiff, reduceCtorEq]; rfl)); (case hvs => rfl))
 simp only [vm, vr, q4, h, reduceIte, Nat.reduceEqDiff, Nat.reduceAdd, Nat.reduceLeDiff, reduceCtorEq]
 (apply s_call (spec7 _ _); (case hf => rfl); (case hq => (simp only [vm, reduceIte, Nat.reduceEqDiff, reduceCtorEq]; rfl)); (case hvs => rfl))
 simp only [vm, vr, q4, h2, reduceIte, Nat.reduceEqDiff, Nat.reduceAdd, Nat.reduceLeDiff, reduceCtorEq]
 (apply s_call (spec15 _); (case hf => rfl); (case hq => (simp only [vm, reduceIte, Nat.reduceEqDiff, reduceCtorEq]; rfl)); (case hvs => rfl))
 simp only [vm, vr, q4, h3, reduceIte, Nat.reduceEqDiff, Nat.reduceAdd, Nat.reduceLeDiff, reduceCtorEq]
 (apply s_call (hs12); (case hf => rfl); (case hq => (simp only [vm, reduceIte, Nat.reduceEqDiff, reduceCtorEq]; rfl)); (case hvs => rfl))
 simp only [vm, vr, k2, reduceIte, Nat.reduceEqDiff, reduceCtorEq]
 (refine hK _ ?_; clear hK K)
 refine c_if _ rfl (fun hb2 => ?_) (fun hb2 => ?_) <;> (have hp2 := hb2; try simp only [] at hp2)
 refine c_assoc ?_
 refine c_reg fun K hK => ?_
 simp only [vm, vr]
 (refine hK _ ?_; clear hK K)
 refine c_ret ?_
 simp only [vm, vr, reduceIte, Nat.reduceEqDiff, reduceCtorEq]
 cases hb2
theorem clv_pri (h : fewB t x = true) (h2 : fvB P = true) (h3 : decide ((l.length : Int) ≤ 14) = true) (h0 : opE t x = 0) (hp : priE c ≠ 0) : Sp0 4 [ctV t, csV x, .agg [nn c.op, nn c.ch, .sl (P.map lsV), .sl (l.map nn)]] (R.v (.b true)) := by
 obtain ⟨f1, f2, f3⟩ := few_ok h
 have hs12 := spec12 t x (by omega) (by omega) (by omega)
 rw [both_op, h0] at hs12
 have hs13 : Sp0 13 [.agg [nn c.op, nn c.ch]] (R.v (nn (priE c))) := spec13 c
 have k2 : (priE c != 0) = true := bne_iff_ne.2 hp
 generalize priE c = E at *
 refine spec_of mixed (fun _ _ _ h => h) Tryz.func4 (by decide +kernel) rfl (rs := _) rfl (by rfl) rfl (by simp [Tryz.f4]) (by decide +kernel) ?_; simp only [argsG, Nat.zero_add, Nat.reduceAdd]
 refine c_reg fun K hK => ?_
 simp only [vm, vr, reduceIte, Nat.reduceEqDiff, Nat.reduceAdd, reduceCtorEq]
 refine need_by (by first | assumption | omega | (simp; done) | (simp; omega)) ?_
 refine need_by (by first | assumption | omega | (simp; done) | (simp; omega)) ?_
 refine need_by (by first | assumption | omega | (simp; done) | (simp; omega)) ?_
 (refine hK _ ?_; clear hK K)
 refine c_assoc ?_
 refine c_reg fun K hK => ?_
 (apply s_call (hs5); (case hf => rfl); (case hq => (simp only [vm]; rfl)); (case hvs => rfl))
 simp only [vm, vr, reduceIte, Nat.reduceEqDiff, reduceCtorEq]
 (refine hK _ ?_; clear hK K)
 refine c_if _ rfl (fun hb1 => ?_) (fun hb1 => ?_) <;> (have hp1 := hb1; try simp only [] at hp1)
 cases hb1
 refine c_skip ?_
 refine c_assoc ?_
 refine c_reg fun K hK => ?_
 simp only [vm, vr, q4, reduceIte, Nat.reduceEqDiff, Nat.reduceAdd, Nat.reduceLeDiff, reduceCtorEq]
 (apply s_call (spec6 _ _); (case hf => rfl); (case hq => (simp only [vm, reduceIte, Nat.reduceEqDiff, reduceCtorEq]; rfl)); (case hvs => rfl))
 simp only [vm, vr, q4, h, reduceIte, Nat.reduceEqDiff, Nat.reduceAdd, Nat.reduceLeDiff, reduceCtorEq]
 (apply s_call (spec7 _ _); (case hf => rfl); (case hq => (simp only [vm, reduceIte, Nat.reduceEqDiff, reduceCtorEq]; rfl)); (case hvs => rfl))
 simp only [vm, vr, q4, h2, reduceIte, Nat.reduceEqDiff, Nat.reduceAdd, Nat.reduceLeDiff, reduceCtorEq]
 (apply s_call (spec15 _); (case hf => rfl); (case hq => (simp only [vm, reduceIte, Nat.reduceEqDiff, reduceCtorEq]; rfl)); (case hvs => rfl))
 simp only [vm, vr, q4, h3, reduceIte, Nat.reduceEqDiff, Nat.reduceAdd, Nat.reduceLeDiff, reduceCtorEq]
 (apply s_call (hs12); (case hf => rfl); (case hq => (simp only [vm, reduceIte, Nat.reduceEqDiff, reduceCtorEq]; rfl)); (case hvs => rfl))
 simp only [vm, vr, q4, bne_self_eq_false, reduceIte, Nat.reduceEqDiff, Nat.reduceAdd, Nat.reduceLeDiff, reduceCtorEq]
 (apply s_call (hs13); (case hf => rfl); (case hq => (simp only [vm, reduceIte, Nat.reduceEqDiff, reduceCtorEq]; rfl)); (case hvs => rfl))
 simp only [vm, vr, k2, reduceIte, Nat.reduceEqDiff, reduceCtorEq]
 (refine hK _ ?_; clear hK K)
 refine c_if _ rfl (fun hb2 => ?_) (fun hb2 => ?_) <;> (have hp2 := hb2; try simp only [] at hp2)
 refine c_assoc ?_
 refine c_reg fun K hK => ?_
 simp only [vm, vr]
 (refine hK _ ?_; clear hK K)
 refine c_ret ?_
 simp only [vm, vr, reduceIte, Nat.reduceEqDiff, reduceCtorEq]
 cases hb2
theorem clv_ok (h : fewB t x = true) (h2 : fvB P = true) (h3 : decide ((l.length : Int) ≤ 14) = true) (h0 : opE t x = 0) (hp : priE c = 0) : Sp0 4 [ctV t, csV x, .agg [nn c.op, nn c.ch, .sl (P.map lsV), .sl (l.map nn)]] (R.v (.b true)) := by
 obtain ⟨f1, f2, f3⟩ := few_ok h
 obtain ⟨f4, f5, f6⟩ := fv_ok h2
 have f7 := of_decide_eq_true h3
 have hr : ∀ l ∈ P, l.length < 1000000 := fun l hl => by have := f5 l hl; omega
 obtain ⟨ht, hx⟩ := op_ok h0
 have hxl := hx.len
 have hs11 := spec11 c P (by omega) hr
 have hs12 := spec12 t x (by omega) (by omega) (by omega)
 rw [both_op, h0] at hs12
 have hs13 : Sp0 13 [.agg [nn c.op, nn c.ch]] (R.v (nn (priE c))) := spec13 c
 rw [hp] at hs13
 have hs16 : Sp0 16 [ctV t, csV x, .agg [nn c.op, nn c.ch]] (.tup [.c (.p (.sl ((natL (outC t x c x.ents.length)).map nn))), .c (.p (nn (bestC t x c))), .c (.p (nn 0))]) := cheap_ok t x c h0 hp
 have hs17 : Sp0 17 [ctV t, .agg [nn c.op, nn c.ch], .sl ((natL (outC t x c x.ents.length)).map nn)] (R.v2 (nn (bestC t x c)) (nn 0)) := by
  have := co_e3 t c (natL (outC t x c x.ents.length)) (outC_co ht hx hp)
  rw [outC_cost hx] at this
  exact this
 obtain ⟨v, E, hs8, hE⟩ := bnd_of t x c P (by omega) (by omega) h0 hp
 have hvn : E = 0 → v ≤ bestC t x c := fun e => by
  have := hE e (bstC t x c) (fun i hi => bstC_mem hi)
  rwa [cost_all (by omega) (fun i _ => pmt_ok i)] at this
 have hul : (natL (outC t x c x.ents.length)).length < 1000000 := by rw [List.length_map, outC_len]; omega
 have hcl : ∀ l : Nat → Nat, (∀ i, i < x.ents.length → l i ∈ pmtS t x i) → bestC t x c ≤ cosF (ownC c) (chgC c) l x.ents.length := fun l hl => by
  have := cost_least (w := ownC c) (d := chgC c) (by omega) (fun i _ => pmt_ok i) hl
  rwa [cost_all (by omega) (fun i _ => pmt_ok i)] at this
 generalize natL (outC t x c x.ents.length) = U at *
 generalize bestC t x c = B at *
 by_cases hw : wiE t x l = 0
 ·
  obtain ⟨_, _, hl, hsE⟩ := wi_ok hw
  have hs19 := spec19 t x l hw
  have hyes := fun i hi => yes_pmt hw (i := i) hi
  have hal : (anL t x l l.length).length = x.ents.length := by rw [← hl]; simp [anL]
  have hco : coE t c l = 0 := by
   have hh : hcE t c l = 0 := by
    unfold hcE
    rw [first_cons0 (tab_zero ht), first_cons0 hp, first_cons0 (cnt_zero (by omega))]; rfl
   unfold coE; rw [if_pos hh]; exact hsE
  have hs17w2 : Sp0 17 [ctV t, .agg [nn c.op, nn c.ch], .sl (l.map nn)] (R.v2 (nn (cosN c l l.length)) (nn 0)) := co_e3 t c l hco
  have hown : (∀ i, i < x.ents.length → (anL t x l l.length).getD i 0 = 2) → decide (cosN c l l.length ≥ B) = true ∧ (E = 0 → decide (v ≤ cosN c l l.length) = true) := fun hA => by
   have hm : ∀ i, i < x.ents.length → (l.getD i 0).toNat ∈ pmtS t x i := fun i hi => hyes i hi (hA i hi)
   have e : cosN c l l.length = cosF (ownC c) (chgC c) (fun i => (l.getD i 0).toNat) x.ents.length := by rw [hl]; rfl
   rw [e]
   exact ⟨decide_eq_true (hcl _ hm), fun e => decide_eq_true (hE e _ hm)⟩
  generalize anL t x l l.length = A at *
  generalize cosN c l l.length = C at *
  clear hyes hcl hE
  by_cases e : E = 0
  ·
   subst e
   have k4 : decide (v > B) = false := decide_eq_false (by have := hvn rfl; omega)
   refine spec_of mixed (fun _ _ _ h => h) Tryz.func4 (by decide +kernel) rfl (rs := _) rfl (by rfl) rfl (by simp [Tryz.f4]) (by decide +kernel) ?_; simp only [argsG, Nat.zero_add, Nat.reduceAdd]
   refine c_reg fun K hK => ?_
   simp only [vm, vr, reduceIte, Nat.reduceEqDiff, Nat.reduceAdd, reduceCtorEq]
   refine need_by (by first | assumption | omega | (simp; done) | (simp; omega)) ?_
   refine need_by (by first | assumption | omega | (simp; done) | (simp; omega)) ?_
   refine need_by (by first | assumption | omega | (simp; done) | (simp; omega)) ?_
   (refine hK _ ?_; clear hK K)
   refine c_assoc ?_
   refine c_reg fun K hK => ?_
   (apply s_call (hs5); (case hf => rfl); (case hq => (simp only [vm]; rfl)); (case hvs => rfl))
   simp only [vm, vr, reduceIte, Nat.reduceEqDiff, reduceCtorEq]
   (refine hK _ ?_; clear hK K)
   refine c_if _ rfl (fun hb1 => ?_) (fun hb1 => ?_) <;> (have hp1 := hb1; try simp only [] at hp1)
   cases hb1
   refine c_skip ?_
   refine c_assoc ?_
   refine c_reg fun K hK => ?_
   simp only [vm, vr, q4, reduceIte, Nat.reduceEqDiff, Nat.reduceAdd, Nat.reduceLeDiff, reduceCtorEq]
   (apply s_call (spec6 _ _); (case hf => rfl); (case hq => (simp only [vm, reduceIte, Nat.reduceEqDiff, reduceCtorEq]; rfl)); (case hvs => rfl))
   simp only [vm, vr, q4, h, reduceIte, Nat.reduceEqDiff, Nat.reduceAdd, Nat.reduceLeDiff, reduceCtorEq]
   (apply s_call (spec7 _ _); (case hf => rfl); (case hq => (simp only [vm, reduceIte, Nat.reduceEqDiff, reduceCtorEq]; rfl)); (case hvs => rfl))
   simp only [vm, vr, q4, h2, reduceIte, Nat.reduceEqDiff, Nat.reduceAdd, Nat.reduceLeDiff, reduceCtorEq]
   (apply s_call (spec15 _); (case hf => rfl); (case hq => (simp only [vm, reduceIte, Nat.reduceEqDiff, reduceCtorEq]; rfl)); (case hvs => rfl))
   simp only [vm, vr, q4, h3, reduceIte, Nat.reduceEqDiff, Nat.reduceAdd, Nat.reduceLeDiff, reduceCtorEq]
   (apply s_call (hs12); (case hf => rfl); (case hq => (simp only [vm, reduceIte, Nat.reduceEqDiff, reduceCtorEq]; rfl)); (case hvs => rfl))
   simp only [vm, vr, q4, bne_self_eq_false, reduceIte, Nat.reduceEqDiff, Nat.reduceAdd, Nat.reduceLeDiff, reduceCtorEq]
   (apply s_call (hs13); (case hf => rfl); (case hq => (simp only [vm, reduceIte, Nat.reduceEqDiff, reduceCtorEq]; rfl)); (case hvs => rfl))
   simp only [vm, vr, bne_self_eq_false, reduceIte, Nat.reduceEqDiff, reduceCtorEq]
   (refine hK _ ?_; clear hK K)
   refine c_if _ rfl (fun hb2 => ?_) (fun hb2 => ?_) <;> (have hp2 := hb2; try simp only [] at hp2)
   cases hb2
   refine c_skip ?_
   refine c_reg fun K hK => ?_
   simp only [vm, vr, q4, reduceIte, Nat.reduceEqDiff, Nat.reduceAdd, Nat.reduceLeDiff, reduceCtorEq]
   refine need_by (by first | assumption | omega | (simp; done) | (simp; omega)) ?_
   (refine hK _ ?_; clear hK K)
   refine c_draw fun K hK => ?_
   simp only [vm, vr, q4, reduceIte, Nat.reduceEqDiff, Nat.reduceAdd, Nat.reduceLeDiff, reduceCtorEq]
   (apply d_callx (spec9 _ ?s15907x1); (case hf => rfl); (case hq => (simp only [vm, reduceIte, Nat.reduceEqDiff, reduceCtorEq]; rfl)); (case hvs => rfl); (case hL => (simp only [vm, R.toL, R1.toL, rcsToL, RC.toL, siteN, reduceIte, Nat.reduceAdd, Nat.reduceMul]; rfl)); (case hfr => (simp only [vm, vr, reduceIte, Nat.reduceEqDiff, reduceCtorEq]; try rfl)); (case s15907x1 => first | assumption | omega | (simp; done) | (simp; omega)))
   simp only [vm, vr, vp, q4, reduceIte, Nat.reduceEqDiff, Nat.reduceAdd, Nat.reduceLeDiff, reduceCtorEq]
   (apply d_callx (spec10 _ ?s15908x1 ?s15908x2); (case hf => rfl); (case hq => (simp only [vm, reduceIte, Nat.reduceEqDiff, reduceCtorEq]; rfl)); (case hvs => rfl); (case hL => (simp only [vm, R.toL, R1.toL, rcsToL, RC.toL, siteN, reduceIte, Nat.reduceAdd, Nat.reduceMul, reduceCtorEq]; rfl)); (case hfr => (simp only [vm, vr, reduceIte, Nat.reduceEqDiff, reduceCtorEq]; try rfl)); (case s15908x1 | s15908x2 => first | assumption | omega | (simp; done) | (simp; omega)))
   simp only [vm, vr, q4, reduceIte, Nat.reduceEqDiff, Nat.reduceAdd, Nat.reduceLeDiff, reduceCtorEq]
   (apply d_callx (hs16); (case hf => rfl); (case hq => (simp only [vm, vr, reduceIte, Nat.reduceEqDiff, reduceCtorEq]; rfl)); (case hvs => rfl); (case hL => (simp only [vm, R.toL, R1.toL, RC.toL, r1sToL]; rfl)); (case hfr => (simp only [vr]; try rfl)))
   simp only [vm, vr, reduceIte, Nat.reduceEqDiff, reduceCtorEq]
   (refine draw_ok (by decide +kernel) (hK _ ?_); clear hK; clear K)
   refine c_draw fun K hK => ?_
   simp only [vm, vr, q4, reduceIte, Nat.reduceEqDiff, Nat.reduceAdd, Nat.reduceLeDiff, reduceCtorEq]
   (apply d_callx (spec9 _ ?s15910x1); (case hf => rfl); (case hq => (simp only [vm, reduceIte, Nat.reduceEqDiff, reduceCtorEq]; rfl)); (case hvs => rfl); (case hL => (simp only [vm, R.toL, R1.toL, rcsToL, RC.toL, siteN, reduceIte, Nat.reduceAdd, Nat.reduceMul]; rfl)); (case hfr => (simp only [vm, vr, reduceIte, Nat.reduceEqDiff, reduceCtorEq]; try rfl)); (case s15910x1 => first | assumption | omega | (simp; done) | (simp; omega)))
   simp only [vm, vr, vp, q4, reduceIte, Nat.reduceEqDiff, Nat.reduceAdd, Nat.reduceLeDiff, reduceCtorEq]
   (apply d_calla (spec18 _ ?s15911x1); (case hf => rfl); (case hq => (simp only [vm, reduceIte, Nat.reduceEqDiff, reduceCtorEq]; rfl)); (case hvs => rfl); (case hfr => (simp only [vm, reduceIte, Nat.reduceEqDiff, reduceCtorEq])); (case hfz => rfl); (case s15911x1 => first | assumption | omega | (simp; done) | (simp; omega)))
   (apply d_call2 (hs17); (case hf => rfl); (case hq => (simp only [vm, vr, reduceIte, Nat.reduceEqDiff, reduceCtorEq]; rfl)); (case hvs => rfl))
   simp only [vm, vr, reduceIte, Nat.reduceEqDiff, reduceCtorEq]
   (refine draw_ok (by decide +kernel) (hK _ ?_); clear hK; clear K)
   refine c_assoc ?_
   refine c_reg fun K hK => ?_
   simp only [vm, vr, bne_self_eq_false, reduceIte, Nat.reduceEqDiff, reduceCtorEq]
   (refine hK _ ?_; clear hK K)
   refine c_if _ rfl (fun hb3 => ?_) (fun hb3 => ?_) <;> (have hp3 := hb3; try simp only [] at hp3)
   cases hb3
   refine c_skip ?_
   refine c_draw fun K hK => ?_
   simp only [vm, vr, q4, reduceIte, Nat.reduceEqDiff, Nat.reduceAdd, Nat.reduceLeDiff, reduceCtorEq]
   (apply d_callx (spec9 _ ?s15914x1); (case hf => rfl); (case hq => (simp only [vm, reduceIte, Nat.reduceEqDiff, reduceCtorEq]; rfl)); (case hvs => rfl); (case hL => (simp only [vm, R.toL, R1.toL, rcsToL, RC.toL, siteN, reduceIte, Nat.reduceAdd, Nat.reduceMul]; rfl)); (case hfr => (simp only [vm, vr, reduceIte, Nat.reduceEqDiff, reduceCtorEq]; try rfl)); (case s15914x1 => first | assumption | omega | (simp; done) | (simp; omega)))
   simp only [vm, vr, vp, q4, reduceIte, Nat.reduceEqDiff, Nat.reduceAdd, Nat.reduceLeDiff, reduceCtorEq]
   (apply d_callx (spec10 _ ?s15915x1 ?s15915x2); (case hf => rfl); (case hq => (simp only [vm, reduceIte, Nat.reduceEqDiff, reduceCtorEq]; rfl)); (case hvs => rfl); (case hL => (simp only [vm, R.toL, R1.toL, rcsToL, RC.toL, siteN, reduceIte, Nat.reduceAdd, Nat.reduceMul, reduceCtorEq]; rfl)); (case hfr => (simp only [vm, vr, reduceIte, Nat.reduceEqDiff, reduceCtorEq]; try rfl)); (case s15915x1 | s15915x2 => first | assumption | omega | (simp; done) | (simp; omega)))
   simp only [vm, vr, q4, reduceIte, Nat.reduceEqDiff, Nat.reduceAdd, Nat.reduceLeDiff, reduceCtorEq]
   (apply d_callx (hs11); (case hf => rfl); (case hq => (simp only [vm, reduceIte, Nat.reduceEqDiff, reduceCtorEq]; rfl)); (case hvs => rfl); (case hL => (simp only [vm, R.toL, R1.toL, rcsToL, RC.toL, siteN, reduceIte, Nat.reduceAdd, Nat.reduceMul]; rfl)); (case hfr => (simp only [vm, vr, reduceIte, Nat.reduceEqDiff, reduceCtorEq]; try rfl)))
   (apply d_call2 (hs8); (case hf => rfl); (case hq => (simp only [vm, vr, vp, reduceIte, Nat.reduceEqDiff, reduceCtorEq]; rfl)); (case hvs => rfl))
   simp only [vm, vr, vp, reduceIte, Nat.reduceEqDiff, reduceCtorEq]
   (refine draw_ok (by decide +kernel) (hK _ ?_); clear hK; clear K)
   refine c_assoc ?_
   refine c_reg fun K hK => ?_
   simp only [vm, vr, k4, beq_self_eq_true, reduceIte, Nat.reduceEqDiff, reduceCtorEq]
   (refine hK _ ?_; clear hK K)
   refine c_if _ rfl (fun hb4 => ?_) (fun hb4 => ?_) <;> (have hp4 := hb4; try simp only [] at hp4)
   cases hb4
   refine c_skip ?_
   refine c_draw fun K hK => ?_
   simp only [vm, vr, q4, reduceIte, Nat.reduceEqDiff, Nat.reduceAdd, Nat.reduceLeDiff, reduceCtorEq]
   (apply d_callx (spec9 _ ?s15918x1); (case hf => rfl); (case hq => (simp only [vm, reduceIte, Nat.reduceEqDiff, reduceCtorEq]; rfl)); (case hvs => rfl); (case hL => (simp only [vm, R.toL, R1.toL, rcsToL, RC.toL, siteN, reduceIte, Nat.reduceAdd, Nat.reduceMul]; rfl)); (case hfr => (simp only [vm, vr, reduceIte, Nat.reduceEqDiff, reduceCtorEq]; try rfl)); (case s15918x1 => first | assumption | omega | (simp; done) | (simp; omega)))
   simp only [vm, vr, vp, q4, reduceIte, Nat.reduceEqDiff, Nat.reduceAdd, Nat.reduceLeDiff, reduceCtorEq]
   (apply d_callx (spec10 _ ?s15919x1 ?s15919x2); (case hf => rfl); (case hq => (simp only [vm, reduceIte, Nat.reduceEqDiff, reduceCtorEq]; rfl)); (case hvs => rfl); (case hL => (simp only [vm, R.toL, R1.toL, rcsToL, RC.toL, siteN, reduceIte, Nat.reduceAdd, Nat.reduceMul, reduceCtorEq]; rfl)); (case hfr => (simp only [vm, vr, reduceIte, Nat.reduceEqDiff, reduceCtorEq]; try rfl)); (case s15919x1 | s15919x2 => first | assumption | omega | (simp; done) | (simp; omega)))
   simp only [vm, vr, q4, reduceIte, Nat.reduceEqDiff, Nat.reduceAdd, Nat.reduceLeDiff, reduceCtorEq]
   (apply d_calla (spec18 _ ?s15920x1); (case hf => rfl); (case hq => (simp only [vm, reduceIte, Nat.reduceEqDiff, reduceCtorEq]; rfl)); (case hvs => rfl); (case hfr => (simp only [vm, reduceIte, Nat.reduceEqDiff, reduceCtorEq])); (case hfz => rfl); (case s15920x1 => first | assumption | omega | (simp; done) | (simp; omega)))
   (apply d_call2 (hs19); (case hf => rfl); (case hq => (simp only [vm, vr, reduceIte, Nat.reduceEqDiff, reduceCtorEq]; rfl)); (case hvs => rfl))
   simp only [vm, vr, reduceIte, Nat.reduceEqDiff, reduceCtorEq]
   (refine draw_ok (by decide +kernel) (hK _ ?_); clear hK; clear K)
   refine c_assoc ?_
   refine c_reg fun K hK => ?_
   simp only [vm, vr, bne_self_eq_false, reduceIte, Nat.reduceEqDiff, reduceCtorEq]
   (refine hK _ ?_; clear hK K)
   refine c_if _ rfl (fun hb5 => ?_) (fun hb5 => ?_) <;> (have hp5 := hb5; try simp only [] at hp5)
   cases hb5
   refine c_skip ?_
   refine c_assoc ?_
   refine c_reg fun K hK => ?_
   simp only [vm, vr]
   (refine hK _ ?_; clear hK K)
   refine c_block ?_
   refine vcode_loop (fun i : Nat => [(3, L.own 3 0), (5, L.own 5 0), (6, L.p (V.b false)), (7, L.own 7 0), (9, L.p (nn B)), (13, L.p (nn v)), (14, L.p (nn (0 : Int))), (15, L.p (V.sl (List.map nn A))), (17, L.p (nn i))]) (fun _ => [(Key.b 7, M.box 2), (Key.c 7 0, M.cell (L.p (nn c.op))), (Key.c 7 1, M.cell (L.p (nn c.ch))), (Key.b 5, M.box 4), (Key.c 5 0, M.cell (L.p (nn c.op))), (Key.c 5 1, M.cell (L.p (nn c.ch))), (Key.c 5 2, M.cell (L.p (V.sl (P.map lsV)))), (Key.c 5 3, M.cell (L.p (V.sl (l.map nn)))), (Key.b 3, M.box 3), (Key.c 3 0, M.cell (L.p (nn t.water))), (Key.c 3 1, M.cell (L.p (nn t.air))), (Key.c 3 2, M.cell (L.p (V.sl (t.banks.map bnkV))))]) (fun i => i ≤ x.ents.length ∧ ∀ j, j < i → A.getD j 0 = 2) (fun i => x.ents.length - i) 0 ⟨Nat.zero_le _, fun j h => absurd h (by omega)⟩ ?_ ?_
   ·
    simp only [vm, vmk, reduceIte, Nat.reduceEqDiff, Nat.reduceAdd, Nat.reduceLT, reduceCtorEq]
   ·
    rintro i ⟨hi, hq⟩
    rcases Nat.lt_or_ge i x.ents.length with hil | hil
    ·
     have kl : decide ((i : Int) < (x.ents.length : Int)) = true := decide_eq_true (by omega)
     by_cases g : A.getD i 0 = 2
     ·
      have kg : (A.getD i 0 != 2) = false := bne_eq_false_iff_eq.2 g
      refine c_assoc ?_
      refine c_reg fun K hK => ?_
      simp only [vm, vr, q4, hal, kl, reduceIte, Nat.reduceEqDiff]
      (refine hK _ ?_; clear hK K)
      refine c_if _ rfl (fun hb6 => ?_) (fun hb6 => ?_) <;> (have hp6 := hb6; try simp only [] at hp6)
      refine c_skip ?_
      refine c_block ?_
      refine c_reg fun K hK => ?_
      simp only [vm, vr, q4, reduceIte, Nat.reduceEqDiff]
      (refine atI_map 0 (by first | assumption | omega | (simp; done) | (simp; omega)) (by first | assumption | omega | (simp; done) | (simp; omega)) ?_; simp only [vm, vr, q4, kg])
      (refine hK _ ?_; clear hK K)
      refine vcode_if _ rfl (fun hb7 => ?_) (fun hb7 => ?_) <;> (have hp7 := hb7; try simp only [] at hp7)
      cases hb7
      refine c_skip1 ?_
      simp only [thenV_n, blockV_n]
      refine c_reg1 fun K hK => ?_
      simp only [vm, vr, reduceIte, Nat.reduceEqDiff]
      (simp (disch := omega) only [wr64]; try simp only [vm, vr, vt, vp, q4, mapbnk, mapp2, mapls, hal, kl, kg, hb1, hb2, hb3, hb4, hb5, hb6, hb7, Int.reduceBNe, Int.reduceBEq, Int.reduceLT, Int.reduceLE, Int.reduceGT, Int.reduceGE, decide_true, decide_false, bne_self_eq_false, beq_self_eq_true, reduceIte, Nat.reduceEqDiff, Nat.reduceAdd, Nat.reduceLeDiff, Nat.reduceMul, Nat.reduceLT, reduceCtorEq])
      (refine hK _ ?_; clear hK K)
      simp only [thenV_n]
      rotate_left
      cases hb6
      refine ⟨i + 1, ?_, ⟨by omega, fun j hj => ?_⟩, by omega⟩
      ·
       ((show Wk _ _ _; simp only [vm, vmk, reduceIte, Nat.reduceEqDiff, Nat.reduceAdd, Nat.reduceLT, reduceCtorEq]; (try simp (disch := omega) only [wr64]); try omega))
      ·
       by_cases e : j = i
       ·
        rw [e]; exact g
       ·
        exact hq j (by omega)
     ·
      have kg : (A.getD i 0 != 2) = true := bne_iff_ne.2 g
      refine c_assoc ?_
      refine c_reg fun K hK => ?_
      simp only [vm, vr, q4, hal, kl, reduceIte, Nat.reduceEqDiff]
      (refine hK _ ?_; clear hK K)
      refine c_if _ rfl (fun hb6 => ?_) (fun hb6 => ?_) <;> (have hp6 := hb6; try simp only [] at hp6)
      refine c_skip ?_
      refine c_block ?_
      refine c_reg fun K hK => ?_
      simp only [vm, vr, q4, reduceIte, Nat.reduceEqDiff]
      (refine atI_map 0 (by first | assumption | omega | (simp; done) | (simp; omega)) (by first | assumption | omega | (simp; done) | (simp; omega)) ?_; simp only [vm, vr, q4, kg])
      (refine hK _ ?_; clear hK K)
      refine vcode_if _ rfl (fun hb7 => ?_) (fun hb7 => ?_) <;> (have hp7 := hb7; try simp only [] at hp7)
      refine c_reg fun K hK => ?_
      simp only [vm, vr]
      (refine hK _ ?_; clear hK K)
      refine c_ret1 ?_
      simp only [thenV_r, blockV_r]
      simp only [vm, vr, reduceIte, Nat.reduceEqDiff]
      cases hb7
      cases hb6
    ·
     have kl : decide ((i : Int) < (x.ents.length : Int)) = false := decide_eq_false (by omega)
     have ho := hown fun j hj => hq j (by omega)
     have ko := ho.1
     have ko2 := ho.2 rfl
     have hs17 := hs17w2
     refine c_assoc ?_
     refine c_reg fun K hK => ?_
     simp only [vm, vr, q4, hal, kl, reduceIte, Nat.reduceEqDiff]
     (refine hK _ ?_; clear hK K)
     refine c_if _ rfl (fun hb6 => ?_) (fun hb6 => ?_) <;> (have hp6 := hb6; try simp only [] at hp6)
     cases hb6
     refine c_exit ?_
     simp only [thenV_n, thenV_e, blockV_e, reduceIte]
     refine c_draw fun K hK => ?_
     simp only [vm, vr, q4, reduceIte, Nat.reduceEqDiff, Nat.reduceAdd, Nat.reduceLeDiff, reduceCtorEq]
     (apply d_callx (spec9 _ ?s18001x1); (case hf => rfl); (case hq => (simp only [vm, reduceIte, Nat.reduceEqDiff]; rfl)); (case hvs => rfl); (case hL => (simp only [vm, R.toL, R1.toL, rcsToL, RC.toL, siteN, reduceIte, Nat.reduceAdd, Nat.reduceMul]; rfl)); (case hfr => (simp only [vm, vr, reduceIte, Nat.reduceEqDiff, reduceCtorEq]; try rfl)); (case s18001x1 => first | assumption | omega | (simp; done) | (simp; omega)))
     simp only [vm, vr, vp, q4, reduceIte, Nat.reduceEqDiff, Nat.reduceAdd, Nat.reduceLeDiff, reduceCtorEq]
     (apply d_calla (spec18 _ ?s18002x1); (case hf => rfl); (case hq => (simp only [vm, reduceIte, Nat.reduceEqDiff]; rfl)); (case hvs => rfl); (case hfr => (simp only [vm, reduceIte, Nat.reduceEqDiff, reduceCtorEq])); (case hfz => rfl); (case s18002x1 => first | assumption | omega | (simp; done) | (simp; omega)))
     (apply d_call2 (hs17); (case hf => rfl); (case hq => (simp only [vm, vr, reduceIte, Nat.reduceEqDiff, reduceCtorEq]; rfl)); (case hvs => rfl))
     simp only [vm, vr, reduceIte, Nat.reduceEqDiff]
     (refine draw_ok (by decide +kernel) (hK _ ?_); clear hK; clear K)
     refine c_reg fun K hK => ?_
     simp only [vm, vr, ko, ko2, bne_self_eq_false, beq_self_eq_true, reduceIte, Nat.reduceEqDiff]
     (refine hK _ ?_; clear hK K)
     refine c_ret1 ?_
     simp only [vm, vr, reduceIte, Nat.reduceEqDiff]
  ·
   have k1 : (E == 0) = false := beq_eq_false_iff_ne.2 e
   have k2 : (E != 0) = true := bne_iff_ne.2 e
   refine spec_of mixed (fun _ _ _ h => h) Tryz.func4 (by decide +kernel) rfl (rs := _) rfl (by rfl) rfl (by simp [Tryz.f4]) (by decide +kernel) ?_; simp only [argsG, Nat.zero_add, Nat.reduceAdd]
   refine c_reg fun K hK => ?_
   simp only [vm, vr, reduceIte, Nat.reduceEqDiff, Nat.reduceAdd, reduceCtorEq]
   refine need_by (by first | assumption | omega | (simp; done) | (simp; omega)) ?_
   refine need_by (by first | assumption | omega | (simp; done) | (simp; omega)) ?_
   refine need_by (by first | assumption | omega | (simp; done) | (simp; omega)) ?_
   (refine hK _ ?_; clear hK K)
   refine c_assoc ?_
   refine c_reg fun K hK => ?_
   (apply s_call (hs5); (case hf => rfl); (case hq => (simp only [vm]; rfl)); (case hvs => rfl))
   simp only [vm, vr, reduceIte, Nat.reduceEqDiff, reduceCtorEq]
   (refine hK _ ?_; clear hK K)
   refine c_if _ rfl (fun hb1 => ?_) (fun hb1 => ?_) <;> (have hp1 := hb1; try simp only [] at hp1)
   cases hb1
   refine c_skip ?_
   refine c_assoc ?_
   refine c_reg fun K hK => ?_
   simp only [vm, vr, q4, reduceIte, Nat.reduceEqDiff, Nat.reduceAdd, Nat.reduceLeDiff, reduceCtorEq]
   (apply s_call (spec6 _ _); (case hf => rfl); (case hq => (simp only [vm, reduceIte, Nat.reduceEqDiff, reduceCtorEq]; rfl)); (case hvs => rfl))
   simp only [vm, vr, q4, h, reduceIte, Nat.reduceEqDiff, Nat.reduceAdd, Nat.reduceLeDiff, reduceCtorEq]
   (apply s_call (spec7 _ _); (case hf => rfl); (case hq => (simp only [vm, reduceIte, Nat.reduceEqDiff, reduceCtorEq]; rfl)); (case hvs => rfl))
   simp only [vm, vr, q4, h2, reduceIte, Nat.reduceEqDiff, Nat.reduceAdd, Nat.reduceLeDiff, reduceCtorEq]
   (apply s_call (spec15 _); (case hf => rfl); (case hq => (simp only [vm, reduceIte, Nat.reduceEqDiff, reduceCtorEq]; rfl)); (case hvs => rfl))
   simp only [vm, vr, q4, h3, reduceIte, Nat.reduceEqDiff, Nat.reduceAdd, Nat.reduceLeDiff, reduceCtorEq]
   (apply s_call (hs12); (case hf => rfl); (case hq => (simp only [vm, reduceIte, Nat.reduceEqDiff, reduceCtorEq]; rfl)); (case hvs => rfl))
   simp only [vm, vr, q4, bne_self_eq_false, reduceIte, Nat.reduceEqDiff, Nat.reduceAdd, Nat.reduceLeDiff, reduceCtorEq]
   (apply s_call (hs13); (case hf => rfl); (case hq => (simp only [vm, reduceIte, Nat.reduceEqDiff, reduceCtorEq]; rfl)); (case hvs => rfl))
   simp only [vm, vr, bne_self_eq_false, reduceIte, Nat.reduceEqDiff, reduceCtorEq]
   (refine hK _ ?_; clear hK K)
   refine c_if _ rfl (fun hb2 => ?_) (fun hb2 => ?_) <;> (have hp2 := hb2; try simp only [] at hp2)
   cases hb2
   refine c_skip ?_
   refine c_reg fun K hK => ?_
   simp only [vm, vr, q4, reduceIte, Nat.reduceEqDiff, Nat.reduceAdd, Nat.reduceLeDiff, reduceCtorEq]
   refine need_by (by first | assumption | omega | (simp; done) | (simp; omega)) ?_
   (refine hK _ ?_; clear hK K)
   refine c_draw fun K hK => ?_
   simp only [vm, vr, q4, reduceIte, Nat.reduceEqDiff, Nat.reduceAdd, Nat.reduceLeDiff, reduceCtorEq]
   (apply d_callx (spec9 _ ?s18407x1); (case hf => rfl); (case hq => (simp only [vm, reduceIte, Nat.reduceEqDiff, reduceCtorEq]; rfl)); (case hvs => rfl); (case hL => (simp only [vm, R.toL, R1.toL, rcsToL, RC.toL, siteN, reduceIte, Nat.reduceAdd, Nat.reduceMul]; rfl)); (case hfr => (simp only [vm, vr, reduceIte, Nat.reduceEqDiff, reduceCtorEq]; try rfl)); (case s18407x1 => first | assumption | omega | (simp; done) | (simp; omega)))
   simp only [vm, vr, vp, q4, reduceIte, Nat.reduceEqDiff, Nat.reduceAdd, Nat.reduceLeDiff, reduceCtorEq]
   (apply d_callx (spec10 _ ?s18408x1 ?s18408x2); (case hf => rfl); (case hq => (simp only [vm, reduceIte, Nat.reduceEqDiff, reduceCtorEq]; rfl)); (case hvs => rfl); (case hL => (simp only [vm, R.toL, R1.toL, rcsToL, RC.toL, siteN, reduceIte, Nat.reduceAdd, Nat.reduceMul, reduceCtorEq]; rfl)); (case hfr => (simp only [vm, vr, reduceIte, Nat.reduceEqDiff, reduceCtorEq]; try rfl)); (case s18408x1 | s18408x2 => first | assumption | omega | (simp; done) | (simp; omega)))
   simp only [vm, vr, q4, reduceIte, Nat.reduceEqDiff, Nat.reduceAdd, Nat.reduceLeDiff, reduceCtorEq]
   (apply d_callx (hs16); (case hf => rfl); (case hq => (simp only [vm, vr, reduceIte, Nat.reduceEqDiff, reduceCtorEq]; rfl)); (case hvs => rfl); (case hL => (simp only [vm, R.toL, R1.toL, RC.toL, r1sToL]; rfl)); (case hfr => (simp only [vr]; try rfl)))
   simp only [vm, vr, reduceIte, Nat.reduceEqDiff, reduceCtorEq]
   (refine draw_ok (by decide +kernel) (hK _ ?_); clear hK; clear K)
   refine c_draw fun K hK => ?_
   simp only [vm, vr, q4, reduceIte, Nat.reduceEqDiff, Nat.reduceAdd, Nat.reduceLeDiff, reduceCtorEq]
   (apply d_callx (spec9 _ ?s18410x1); (case hf => rfl); (case hq => (simp only [vm, reduceIte, Nat.reduceEqDiff, reduceCtorEq]; rfl)); (case hvs => rfl); (case hL => (simp only [vm, R.toL, R1.toL, rcsToL, RC.toL, siteN, reduceIte, Nat.reduceAdd, Nat.reduceMul]; rfl)); (case hfr => (simp only [vm, vr, reduceIte, Nat.reduceEqDiff, reduceCtorEq]; try rfl)); (case s18410x1 => first | assumption | omega | (simp; done) | (simp; omega)))
   simp only [vm, vr, vp, q4, reduceIte, Nat.reduceEqDiff, Nat.reduceAdd, Nat.reduceLeDiff, reduceCtorEq]
   (apply d_calla (spec18 _ ?s18411x1); (case hf => rfl); (case hq => (simp only [vm, reduceIte, Nat.reduceEqDiff, reduceCtorEq]; rfl)); (case hvs => rfl); (case hfr => (simp only [vm, reduceIte, Nat.reduceEqDiff, reduceCtorEq])); (case hfz => rfl); (case s18411x1 => first | assumption | omega | (simp; done) | (simp; omega)))
   (apply d_call2 (hs17); (case hf => rfl); (case hq => (simp only [vm, vr, reduceIte, Nat.reduceEqDiff, reduceCtorEq]; rfl)); (case hvs => rfl))
   simp only [vm, vr, reduceIte, Nat.reduceEqDiff, reduceCtorEq]
   (refine draw_ok (by decide +kernel) (hK _ ?_); clear hK; clear K)
   refine c_assoc ?_
   refine c_reg fun K hK => ?_
   simp only [vm, vr, bne_self_eq_false, reduceIte, Nat.reduceEqDiff, reduceCtorEq]
   (refine hK _ ?_; clear hK K)
   refine c_if _ rfl (fun hb3 => ?_) (fun hb3 => ?_) <;> (have hp3 := hb3; try simp only [] at hp3)
   cases hb3
   refine c_skip ?_
   refine c_draw fun K hK => ?_
   simp only [vm, vr, q4, reduceIte, Nat.reduceEqDiff, Nat.reduceAdd, Nat.reduceLeDiff, reduceCtorEq]
   (apply d_callx (spec9 _ ?s18414x1); (case hf => rfl); (case hq => (simp only [vm, reduceIte, Nat.reduceEqDiff, reduceCtorEq]; rfl)); (case hvs => rfl); (case hL => (simp only [vm, R.toL, R1.toL, rcsToL, RC.toL, siteN, reduceIte, Nat.reduceAdd, Nat.reduceMul]; rfl)); (case hfr => (simp only [vm, vr, reduceIte, Nat.reduceEqDiff, reduceCtorEq]; try rfl)); (case s18414x1 => first | assumption | omega | (simp; done) | (simp; omega)))
   simp only [vm, vr, vp, q4, reduceIte, Nat.reduceEqDiff, Nat.reduceAdd, Nat.reduceLeDiff, reduceCtorEq]
   (apply d_callx (spec10 _ ?s18415x1 ?s18415x2); (case hf => rfl); (case hq => (simp only [vm, reduceIte, Nat.reduceEqDiff, reduceCtorEq]; rfl)); (case hvs => rfl); (case hL => (simp only [vm, R.toL, R1.toL, rcsToL, RC.toL, siteN, reduceIte, Nat.reduceAdd, Nat.reduceMul, reduceCtorEq]; rfl)); (case hfr => (simp only [vm, vr, reduceIte, Nat.reduceEqDiff, reduceCtorEq]; try rfl)); (case s18415x1 | s18415x2 => first | assumption | omega | (simp; done) | (simp; omega)))
   simp only [vm, vr, q4, reduceIte, Nat.reduceEqDiff, Nat.reduceAdd, Nat.reduceLeDiff, reduceCtorEq]
   (apply d_callx (hs11); (case hf => rfl); (case hq => (simp only [vm, reduceIte, Nat.reduceEqDiff, reduceCtorEq]; rfl)); (case hvs => rfl); (case hL => (simp only [vm, R.toL, R1.toL, rcsToL, RC.toL, siteN, reduceIte, Nat.reduceAdd, Nat.reduceMul]; rfl)); (case hfr => (simp only [vm, vr, reduceIte, Nat.reduceEqDiff, reduceCtorEq]; try rfl)))
   (apply d_call2 (hs8); (case hf => rfl); (case hq => (simp only [vm, vr, vp, reduceIte, Nat.reduceEqDiff, reduceCtorEq]; rfl)); (case hvs => rfl))
   simp only [vm, vr, vp, reduceIte, Nat.reduceEqDiff, reduceCtorEq]
   (refine draw_ok (by decide +kernel) (hK _ ?_); clear hK; clear K)
   refine c_assoc ?_
   refine c_reg fun K hK => ?_
   simp only [vm, vr, k1, reduceIte, Nat.reduceEqDiff, reduceCtorEq]
   (refine hK _ ?_; clear hK K)
   refine c_if _ rfl (fun hb4 => ?_) (fun hb4 => ?_) <;> (have hp4 := hb4; try simp only [] at hp4)
   cases hb4
   refine c_skip ?_
   refine c_draw fun K hK => ?_
   simp only [vm, vr, q4, reduceIte, Nat.reduceEqDiff, Nat.reduceAdd, Nat.reduceLeDiff, reduceCtorEq]
   (apply d_callx (spec9 _ ?s18418x1); (case hf => rfl); (case hq => (simp only [vm, reduceIte, Nat.reduceEqDiff, reduceCtorEq]; rfl)); (case hvs => rfl); (case hL => (simp only [vm, R.toL, R1.toL, rcsToL, RC.toL, siteN, reduceIte, Nat.reduceAdd, Nat.reduceMul]; rfl)); (case hfr => (simp only [vm, vr, reduceIte, Nat.reduceEqDiff, reduceCtorEq]; try rfl)); (case s18418x1 => first | assumption | omega | (simp; done) | (simp; omega)))
   simp only [vm, vr, vp, q4, reduceIte, Nat.reduceEqDiff, Nat.reduceAdd, Nat.reduceLeDiff, reduceCtorEq]
   (apply d_callx (spec10 _ ?s18419x1 ?s18419x2); (case hf => rfl); (case hq => (simp only [vm, reduceIte, Nat.reduceEqDiff, reduceCtorEq]; rfl)); (case hvs => rfl); (case hL => (simp only [vm, R.toL, R1.toL, rcsToL, RC.toL, siteN, reduceIte, Nat.reduceAdd, Nat.reduceMul, reduceCtorEq]; rfl)); (case hfr => (simp only [vm, vr, reduceIte, Nat.reduceEqDiff, reduceCtorEq]; try rfl)); (case s18419x1 | s18419x2 => first | assumption | omega | (simp; done) | (simp; omega)))
   simp only [vm, vr, q4, reduceIte, Nat.reduceEqDiff, Nat.reduceAdd, Nat.reduceLeDiff, reduceCtorEq]
   (apply d_calla (spec18 _ ?s18420x1); (case hf => rfl); (case hq => (simp only [vm, reduceIte, Nat.reduceEqDiff, reduceCtorEq]; rfl)); (case hvs => rfl); (case hfr => (simp only [vm, reduceIte, Nat.reduceEqDiff, reduceCtorEq])); (case hfz => rfl); (case s18420x1 => first | assumption | omega | (simp; done) | (simp; omega)))
   (apply d_call2 (hs19); (case hf => rfl); (case hq => (simp only [vm, vr, reduceIte, Nat.reduceEqDiff, reduceCtorEq]; rfl)); (case hvs => rfl))
   simp only [vm, vr, reduceIte, Nat.reduceEqDiff, reduceCtorEq]
   (refine draw_ok (by decide +kernel) (hK _ ?_); clear hK; clear K)
   refine c_assoc ?_
   refine c_reg fun K hK => ?_
   simp only [vm, vr, bne_self_eq_false, reduceIte, Nat.reduceEqDiff, reduceCtorEq]
   (refine hK _ ?_; clear hK K)
   refine c_if _ rfl (fun hb5 => ?_) (fun hb5 => ?_) <;> (have hp5 := hb5; try simp only [] at hp5)
   cases hb5
   refine c_skip ?_
   refine c_assoc ?_
   refine c_reg fun K hK => ?_
   simp only [vm, vr]
   (refine hK _ ?_; clear hK K)
   refine c_block ?_
   refine vcode_loop (fun i : Nat => [(3, L.own 3 0), (5, L.own 5 0), (6, L.p (V.b false)), (7, L.own 7 0), (9, L.p (nn B)), (13, L.p (nn v)), (14, L.p (nn E)), (15, L.p (V.sl (List.map nn A))), (17, L.p (nn i))]) (fun _ => [(Key.b 7, M.box 2), (Key.c 7 0, M.cell (L.p (nn c.op))), (Key.c 7 1, M.cell (L.p (nn c.ch))), (Key.b 5, M.box 4), (Key.c 5 0, M.cell (L.p (nn c.op))), (Key.c 5 1, M.cell (L.p (nn c.ch))), (Key.c 5 2, M.cell (L.p (V.sl (P.map lsV)))), (Key.c 5 3, M.cell (L.p (V.sl (l.map nn)))), (Key.b 3, M.box 3), (Key.c 3 0, M.cell (L.p (nn t.water))), (Key.c 3 1, M.cell (L.p (nn t.air))), (Key.c 3 2, M.cell (L.p (V.sl (t.banks.map bnkV))))]) (fun i => i ≤ x.ents.length ∧ ∀ j, j < i → A.getD j 0 = 2) (fun i => x.ents.length - i) 0 ⟨Nat.zero_le _, fun j h => absurd h (by omega)⟩ ?_ ?_
   ·
    simp only [vm, vmk, reduceIte, Nat.reduceEqDiff, Nat.reduceAdd, Nat.reduceLT, reduceCtorEq]
   ·
    rintro i ⟨hi, hq⟩
    rcases Nat.lt_or_ge i x.ents.length with hil | hil
    ·
     have kl : decide ((i : Int) < (x.ents.length : Int)) = true := decide_eq_true (by omega)
     by_cases g : A.getD i 0 = 2
     ·
      have kg : (A.getD i 0 != 2) = false := bne_eq_false_iff_eq.2 g
      refine c_assoc ?_
      refine c_reg fun K hK => ?_
      simp only [vm, vr, q4, hal, kl, reduceIte, Nat.reduceEqDiff]
      (refine hK _ ?_; clear hK K)
      refine c_if _ rfl (fun hb6 => ?_) (fun hb6 => ?_) <;> (have hp6 := hb6; try simp only [] at hp6)
      refine c_skip ?_
      refine c_block ?_
      refine c_reg fun K hK => ?_
      simp only [vm, vr, q4, reduceIte, Nat.reduceEqDiff]
      (refine atI_map 0 (by first | assumption | omega | (simp; done) | (simp; omega)) (by first | assumption | omega | (simp; done) | (simp; omega)) ?_; simp only [vm, vr, q4, kg])
      (refine hK _ ?_; clear hK K)
      refine vcode_if _ rfl (fun hb7 => ?_) (fun hb7 => ?_) <;> (have hp7 := hb7; try simp only [] at hp7)
      cases hb7
      refine c_skip1 ?_
      simp only [thenV_n, blockV_n]
      refine c_reg1 fun K hK => ?_
      simp only [vm, vr, reduceIte, Nat.reduceEqDiff]
      (simp (disch := omega) only [wr64]; try simp only [vm, vr, vt, vp, q4, mapbnk, mapp2, mapls, hal, kl, kg, hb1, hb2, hb3, hb4, hb5, hb6, hb7, Int.reduceBNe, Int.reduceBEq, Int.reduceLT, Int.reduceLE, Int.reduceGT, Int.reduceGE, decide_true, decide_false, bne_self_eq_false, beq_self_eq_true, reduceIte, Nat.reduceEqDiff, Nat.reduceAdd, Nat.reduceLeDiff, Nat.reduceMul, Nat.reduceLT, reduceCtorEq])
      (refine hK _ ?_; clear hK K)
      simp only [thenV_n]
      rotate_left
      cases hb6
      refine ⟨i + 1, ?_, ⟨by omega, fun j hj => ?_⟩, by omega⟩
      ·
       ((show Wk _ _ _; simp only [vm, vmk, reduceIte, Nat.reduceEqDiff, Nat.reduceAdd, Nat.reduceLT, reduceCtorEq]; (try simp (disch := omega) only [wr64]); try omega))
      ·
       by_cases e : j = i
       ·
        rw [e]; exact g
       ·
        exact hq j (by omega)
     ·
      have kg : (A.getD i 0 != 2) = true := bne_iff_ne.2 g
      refine c_assoc ?_
      refine c_reg fun K hK => ?_
      simp only [vm, vr, q4, hal, kl, reduceIte, Nat.reduceEqDiff]
      (refine hK _ ?_; clear hK K)
      refine c_if _ rfl (fun hb6 => ?_) (fun hb6 => ?_) <;> (have hp6 := hb6; try simp only [] at hp6)
      refine c_skip ?_
      refine c_block ?_
      refine c_reg fun K hK => ?_
      simp only [vm, vr, q4, reduceIte, Nat.reduceEqDiff]
      (refine atI_map 0 (by first | assumption | omega | (simp; done) | (simp; omega)) (by first | assumption | omega | (simp; done) | (simp; omega)) ?_; simp only [vm, vr, q4, kg])
      (refine hK _ ?_; clear hK K)
      refine vcode_if _ rfl (fun hb7 => ?_) (fun hb7 => ?_) <;> (have hp7 := hb7; try simp only [] at hp7)
      refine c_reg fun K hK => ?_
      simp only [vm, vr]
      (refine hK _ ?_; clear hK K)
      refine c_ret1 ?_
      simp only [thenV_r, blockV_r]
      simp only [vm, vr, reduceIte, Nat.reduceEqDiff]
      cases hb7
      cases hb6
    ·
     have kl : decide ((i : Int) < (x.ents.length : Int)) = false := decide_eq_false (by omega)
     have ho := hown fun j hj => hq j (by omega)
     have ko := ho.1
   
     have hs17 := hs17w2
     refine c_assoc ?_
     refine c_reg fun K hK => ?_
     simp only [vm, vr, q4, hal, kl, reduceIte, Nat.reduceEqDiff]
     (refine hK _ ?_; clear hK K)
     refine c_if _ rfl (fun hb6 => ?_) (fun hb6 => ?_) <;> (have hp6 := hb6; try simp only [] at hp6)
     cases hb6
     refine c_exit ?_
     simp only [thenV_n, thenV_e, blockV_e, reduceIte]
     refine c_draw fun K hK => ?_
     simp only [vm, vr, q4, reduceIte, Nat.reduceEqDiff, Nat.reduceAdd, Nat.reduceLeDiff, reduceCtorEq]
     (apply d_callx (spec9 _ ?s20501x1); (case hf => rfl); (case hq => (simp only [vm, reduceIte, Nat.reduceEqDiff]; rfl)); (case hvs => rfl); (case hL => (simp only [vm, R.toL, R1.toL, rcsToL, RC.toL, siteN, reduceIte, Nat.reduceAdd, Nat.reduceMul]; rfl)); (case hfr => (simp only [vm, vr, reduceIte, Nat.reduceEqDiff, reduceCtorEq]; try rfl)); (case s20501x1 => first | assumption | omega | (simp; done) | (simp; omega)))
     simp only [vm, vr, vp, q4, reduceIte, Nat.reduceEqDiff, Nat.reduceAdd, Nat.reduceLeDiff, reduceCtorEq]
     (apply d_calla (spec18 _ ?s20502x1); (case hf => rfl); (case hq => (simp only [vm, reduceIte, Nat.reduceEqDiff]; rfl)); (case hvs => rfl); (case hfr => (simp only [vm, reduceIte, Nat.reduceEqDiff, reduceCtorEq])); (case hfz => rfl); (case s20502x1 => first | assumption | omega | (simp; done) | (simp; omega)))
     (apply d_call2 (hs17); (case hf => rfl); (case hq => (simp only [vm, vr, reduceIte, Nat.reduceEqDiff, reduceCtorEq]; rfl)); (case hvs => rfl))
     simp only [vm, vr, reduceIte, Nat.reduceEqDiff]
     (refine draw_ok (by decide +kernel) (hK _ ?_); clear hK; clear K)
     refine c_reg fun K hK => ?_
     simp only [vm, vr, ko, k2, beq_self_eq_true, reduceIte, Nat.reduceEqDiff]
     (refine hK _ ?_; clear hK K)
     refine c_ret1 ?_
     simp only [vm, vr, reduceIte, Nat.reduceEqDiff]
 ·
  have hs19 := spec19ue t x l (by omega) (by omega) (by omega) (by omega) hw
  have k3 : (wiE t x l != 0) = true := bne_iff_ne.2 hw
  generalize wiE t x l = W at *
  clear hcl hE
  by_cases e : E = 0
  ·
   subst e
   have k4 : decide (v > B) = false := decide_eq_false (by have := hvn rfl; omega)
   refine spec_of mixed (fun _ _ _ h => h) Tryz.func4 (by decide +kernel) rfl (rs := _) rfl (by rfl) rfl (by simp [Tryz.f4]) (by decide +kernel) ?_; simp only [argsG, Nat.zero_add, Nat.reduceAdd]
   refine c_reg fun K hK => ?_
   simp only [vm, vr, reduceIte, Nat.reduceEqDiff, Nat.reduceAdd, reduceCtorEq]
   refine need_by (by first | assumption | omega | (simp; done) | (simp; omega)) ?_
   refine need_by (by first | assumption | omega | (simp; done) | (simp; omega)) ?_
   refine need_by (by first | assumption | omega | (simp; done) | (simp; omega)) ?_
   (refine hK _ ?_; clear hK K)
   refine c_assoc ?_
   refine c_reg fun K hK => ?_
   (apply s_call (hs5); (case hf => rfl); (case hq => (simp only [vm]; rfl)); (case hvs => rfl))
   simp only [vm, vr, reduceIte, Nat.reduceEqDiff, reduceCtorEq]
   (refine hK _ ?_; clear hK K)
   refine c_if _ rfl (fun hb1 => ?_) (fun hb1 => ?_) <;> (have hp1 := hb1; try simp only [] at hp1)
   cases hb1
   refine c_skip ?_
   refine c_assoc ?_
   refine c_reg fun K hK => ?_
   simp only [vm, vr, q4, reduceIte, Nat.reduceEqDiff, Nat.reduceAdd, Nat.reduceLeDiff, reduceCtorEq]
   (apply s_call (spec6 _ _); (case hf => rfl); (case hq => (simp only [vm, reduceIte, Nat.reduceEqDiff, reduceCtorEq]; rfl)); (case hvs => rfl))
   simp only [vm, vr, q4, h, reduceIte, Nat.reduceEqDiff, Nat.reduceAdd, Nat.reduceLeDiff, reduceCtorEq]
   (apply s_call (spec7 _ _); (case hf => rfl); (case hq => (simp only [vm, reduceIte, Nat.reduceEqDiff, reduceCtorEq]; rfl)); (case hvs => rfl))
   simp only [vm, vr, q4, h2, reduceIte, Nat.reduceEqDiff, Nat.reduceAdd, Nat.reduceLeDiff, reduceCtorEq]
   (apply s_call (spec15 _); (case hf => rfl); (case hq => (simp only [vm, reduceIte, Nat.reduceEqDiff, reduceCtorEq]; rfl)); (case hvs => rfl))
   simp only [vm, vr, q4, h3, reduceIte, Nat.reduceEqDiff, Nat.reduceAdd, Nat.reduceLeDiff, reduceCtorEq]
   (apply s_call (hs12); (case hf => rfl); (case hq => (simp only [vm, reduceIte, Nat.reduceEqDiff, reduceCtorEq]; rfl)); (case hvs => rfl))
   simp only [vm, vr, q4, bne_self_eq_false, reduceIte, Nat.reduceEqDiff, Nat.reduceAdd, Nat.reduceLeDiff, reduceCtorEq]
   (apply s_call (hs13); (case hf => rfl); (case hq => (simp only [vm, reduceIte, Nat.reduceEqDiff, reduceCtorEq]; rfl)); (case hvs => rfl))
   simp only [vm, vr, bne_self_eq_false, reduceIte, Nat.reduceEqDiff, reduceCtorEq]
   (refine hK _ ?_; clear hK K)
   refine c_if _ rfl (fun hb2 => ?_) (fun hb2 => ?_) <;> (have hp2 := hb2; try simp only [] at hp2)
   cases hb2
   refine c_skip ?_
   refine c_reg fun K hK => ?_
   simp only [vm, vr, q4, reduceIte, Nat.reduceEqDiff, Nat.reduceAdd, Nat.reduceLeDiff, reduceCtorEq]
   refine need_by (by first | assumption | omega | (simp; done) | (simp; omega)) ?_
   (refine hK _ ?_; clear hK K)
   refine c_draw fun K hK => ?_
   simp only [vm, vr, q4, reduceIte, Nat.reduceEqDiff, Nat.reduceAdd, Nat.reduceLeDiff, reduceCtorEq]
   (apply d_callx (spec9 _ ?s21407x1); (case hf => rfl); (case hq => (simp only [vm, reduceIte, Nat.reduceEqDiff, reduceCtorEq]; rfl)); (case hvs => rfl); (case hL => (simp only [vm, R.toL, R1.toL, rcsToL, RC.toL, siteN, reduceIte, Nat.reduceAdd, Nat.reduceMul]; rfl)); (case hfr => (simp only [vm, vr, reduceIte, Nat.reduceEqDiff, reduceCtorEq]; try rfl)); (case s21407x1 => first | assumption | omega | (simp; done) | (simp; omega)))
   simp only [vm, vr, vp, q4, reduceIte, Nat.reduceEqDiff, Nat.reduceAdd, Nat.reduceLeDiff, reduceCtorEq]
   (apply d_callx (spec10 _ ?s21408x1 ?s21408x2); (case hf => rfl); (case hq => (simp only [vm, reduceIte, Nat.reduceEqDiff, reduceCtorEq]; rfl)); (case hvs => rfl); (case hL => (simp only [vm, R.toL, R1.toL, rcsToL, RC.toL, siteN, reduceIte, Nat.reduceAdd, Nat.reduceMul, reduceCtorEq]; rfl)); (case hfr => (simp only [vm, vr, reduceIte, Nat.reduceEqDiff, reduceCtorEq]; try rfl)); (case s21408x1 | s21408x2 => first | assumption | omega | (simp; done) | (simp; omega)))
   simp only [vm, vr, q4, reduceIte, Nat.reduceEqDiff, Nat.reduceAdd, Nat.reduceLeDiff, reduceCtorEq]
   (apply d_callx (hs16); (case hf => rfl); (case hq => (simp only [vm, vr, reduceIte, Nat.reduceEqDiff, reduceCtorEq]; rfl)); (case hvs => rfl); (case hL => (simp only [vm, R.toL, R1.toL, RC.toL, r1sToL]; rfl)); (case hfr => (simp only [vr]; try rfl)))
   simp only [vm, vr, reduceIte, Nat.reduceEqDiff, reduceCtorEq]
   (refine draw_ok (by decide +kernel) (hK _ ?_); clear hK; clear K)
   refine c_draw fun K hK => ?_
   simp only [vm, vr, q4, reduceIte, Nat.reduceEqDiff, Nat.reduceAdd, Nat.reduceLeDiff, reduceCtorEq]
   (apply d_callx (spec9 _ ?s21410x1); (case hf => rfl); (case hq => (simp only [vm, reduceIte, Nat.reduceEqDiff, reduceCtorEq]; rfl)); (case hvs => rfl); (case hL => (simp only [vm, R.toL, R1.toL, rcsToL, RC.toL, siteN, reduceIte, Nat.reduceAdd, Nat.reduceMul]; rfl)); (case hfr => (simp only [vm, vr, reduceIte, Nat.reduceEqDiff, reduceCtorEq]; try rfl)); (case s21410x1 => first | assumption | omega | (simp; done) | (simp; omega)))
   simp only [vm, vr, vp, q4, reduceIte, Nat.reduceEqDiff, Nat.reduceAdd, Nat.reduceLeDiff, reduceCtorEq]
   (apply d_calla (spec18 _ ?s21411x1); (case hf => rfl); (case hq => (simp only [vm, reduceIte, Nat.reduceEqDiff, reduceCtorEq]; rfl)); (case hvs => rfl); (case hfr => (simp only [vm, reduceIte, Nat.reduceEqDiff, reduceCtorEq])); (case hfz => rfl); (case s21411x1 => first | assumption | omega | (simp; done) | (simp; omega)))
   (apply d_call2 (hs17); (case hf => rfl); (case hq => (simp only [vm, vr, reduceIte, Nat.reduceEqDiff, reduceCtorEq]; rfl)); (case hvs => rfl))
   simp only [vm, vr, reduceIte, Nat.reduceEqDiff, reduceCtorEq]
   (refine draw_ok (by decide +kernel) (hK _ ?_); clear hK; clear K)
   refine c_assoc ?_
   refine c_reg fun K hK => ?_
   simp only [vm, vr, bne_self_eq_false, reduceIte, Nat.reduceEqDiff, reduceCtorEq]
   (refine hK _ ?_; clear hK K)
   refine c_if _ rfl (fun hb3 => ?_) (fun hb3 => ?_) <;> (have hp3 := hb3; try simp only [] at hp3)
   cases hb3
   refine c_skip ?_
   refine c_draw fun K hK => ?_
   simp only [vm, vr, q4, reduceIte, Nat.reduceEqDiff, Nat.reduceAdd, Nat.reduceLeDiff, reduceCtorEq]
   (apply d_callx (spec9 _ ?s21413x1); (case hf => rfl); (case hq => (simp only [vm, reduceIte, Nat.reduceEqDiff, reduceCtorEq]; rfl)); (case hvs => rfl); (case hL => (simp only [vm, R.toL, R1.toL, rcsToL, RC.toL, siteN, reduceIte, Nat.reduceAdd, Nat.reduceMul]; rfl)); (case hfr => (simp only [vm, vr, reduceIte, Nat.reduceEqDiff, reduceCtorEq]; try rfl)); (case s21413x1 => first | assumption | omega | (simp; done) | (simp; omega)))
   simp only [vm, vr, vp, q4, reduceIte, Nat.reduceEqDiff, Nat.reduceAdd, Nat.reduceLeDiff, reduceCtorEq]
   (apply d_callx (spec10 _ ?s21414x1 ?s21414x2); (case hf => rfl); (case hq => (simp only [vm, reduceIte, Nat.reduceEqDiff, reduceCtorEq]; rfl)); (case hvs => rfl); (case hL => (simp only [vm, R.toL, R1.toL, rcsToL, RC.toL, siteN, reduceIte, Nat.reduceAdd, Nat.reduceMul, reduceCtorEq]; rfl)); (case hfr => (simp only [vm, vr, reduceIte, Nat.reduceEqDiff, reduceCtorEq]; try rfl)); (case s21414x1 | s21414x2 => first | assumption | omega | (simp; done) | (simp; omega)))
   simp only [vm, vr, q4, reduceIte, Nat.reduceEqDiff, Nat.reduceAdd, Nat.reduceLeDiff, reduceCtorEq]
   (apply d_callx (hs11); (case hf => rfl); (case hq => (simp only [vm, reduceIte, Nat.reduceEqDiff, reduceCtorEq]; rfl)); (case hvs => rfl); (case hL => (simp only [vm, R.toL, R1.toL, rcsToL, RC.toL, siteN, reduceIte, Nat.reduceAdd, Nat.reduceMul]; rfl)); (case hfr => (simp only [vm, vr, reduceIte, Nat.reduceEqDiff, reduceCtorEq]; try rfl)))
   (apply d_call2 (hs8); (case hf => rfl); (case hq => (simp only [vm, vr, vp, reduceIte, Nat.reduceEqDiff, reduceCtorEq]; rfl)); (case hvs => rfl))
   simp only [vm, vr, vp, reduceIte, Nat.reduceEqDiff, reduceCtorEq]
   (refine draw_ok (by decide +kernel) (hK _ ?_); clear hK; clear K)
   refine c_assoc ?_
   refine c_reg fun K hK => ?_
   simp only [vm, vr, k4, beq_self_eq_true, reduceIte, Nat.reduceEqDiff, reduceCtorEq]
   (refine hK _ ?_; clear hK K)
   refine c_if _ rfl (fun hb4 => ?_) (fun hb4 => ?_) <;> (have hp4 := hb4; try simp only [] at hp4)
   cases hb4
   refine c_skip ?_
   refine c_draw fun K hK => ?_
   simp only [vm, vr, q4, reduceIte, Nat.reduceEqDiff, Nat.reduceAdd, Nat.reduceLeDiff, reduceCtorEq]
   (apply d_callx (spec9 _ ?s21417x1); (case hf => rfl); (case hq => (simp only [vm, reduceIte, Nat.reduceEqDiff, reduceCtorEq]; rfl)); (case hvs => rfl); (case hL => (simp only [vm, R.toL, R1.toL, rcsToL, RC.toL, siteN, reduceIte, Nat.reduceAdd, Nat.reduceMul]; rfl)); (case hfr => (simp only [vm, vr, reduceIte, Nat.reduceEqDiff, reduceCtorEq]; try rfl)); (case s21417x1 => first | assumption | omega | (simp; done) | (simp; omega)))
   simp only [vm, vr, vp, q4, reduceIte, Nat.reduceEqDiff, Nat.reduceAdd, Nat.reduceLeDiff, reduceCtorEq]
   (apply d_callx (spec10 _ ?s21418x1 ?s21418x2); (case hf => rfl); (case hq => (simp only [vm, reduceIte, Nat.reduceEqDiff, reduceCtorEq]; rfl)); (case hvs => rfl); (case hL => (simp only [vm, R.toL, R1.toL, rcsToL, RC.toL, siteN, reduceIte, Nat.reduceAdd, Nat.reduceMul, reduceCtorEq]; rfl)); (case hfr => (simp only [vm, vr, reduceIte, Nat.reduceEqDiff, reduceCtorEq]; try rfl)); (case s21418x1 | s21418x2 => first | assumption | omega | (simp; done) | (simp; omega)))
   simp only [vm, vr, q4, reduceIte, Nat.reduceEqDiff, Nat.reduceAdd, Nat.reduceLeDiff, reduceCtorEq]
   (apply d_calla (spec18 _ ?s21419x1); (case hf => rfl); (case hq => (simp only [vm, reduceIte, Nat.reduceEqDiff, reduceCtorEq]; rfl)); (case hvs => rfl); (case hfr => (simp only [vm, reduceIte, Nat.reduceEqDiff, reduceCtorEq])); (case hfz => rfl); (case s21419x1 => first | assumption | omega | (simp; done) | (simp; omega)))
   (apply d_call2 (hs19); (case hf => rfl); (case hq => (simp only [vm, vr, reduceIte, Nat.reduceEqDiff, reduceCtorEq]; rfl)); (case hvs => rfl))
   simp only [vm, vr, reduceIte, Nat.reduceEqDiff, reduceCtorEq]
   (refine draw_ok (by decide +kernel) (hK _ ?_); clear hK; clear K)
   refine c_assoc ?_
   refine c_reg fun K hK => ?_
   simp only [vm, vr, k3, reduceIte, Nat.reduceEqDiff, reduceCtorEq]
   (refine hK _ ?_; clear hK K)
   refine c_if _ rfl (fun hb5 => ?_) (fun hb5 => ?_) <;> (have hp5 := hb5; try simp only [] at hp5)
   refine c_assoc ?_
   refine c_reg fun K hK => ?_
   simp only [vm, vr]
   (refine hK _ ?_; clear hK K)
   refine c_ret ?_
   simp only [vm, vr, reduceIte, Nat.reduceEqDiff, reduceCtorEq]
   cases hb5
  ·
   have k1 : (E == 0) = false := beq_eq_false_iff_ne.2 e
   have k2 : (E != 0) = true := bne_iff_ne.2 e
   refine spec_of mixed (fun _ _ _ h => h) Tryz.func4 (by decide +kernel) rfl (rs := _) rfl (by rfl) rfl (by simp [Tryz.f4]) (by decide +kernel) ?_; simp only [argsG, Nat.zero_add, Nat.reduceAdd]
   refine c_reg fun K hK => ?_
   simp only [vm, vr, reduceIte, Nat.reduceEqDiff, Nat.reduceAdd, reduceCtorEq]
   refine need_by (by first | assumption | omega | (simp; done) | (simp; omega)) ?_
   refine need_by (by first | assumption | omega | (simp; done) | (simp; omega)) ?_
   refine need_by (by first | assumption | omega | (simp; done) | (simp; omega)) ?_
   (refine hK _ ?_; clear hK K)
   refine c_assoc ?_
   refine c_reg fun K hK => ?_
   (apply s_call (hs5); (case hf => rfl); (case hq => (simp only [vm]; rfl)); (case hvs => rfl))
   simp only [vm, vr, reduceIte, Nat.reduceEqDiff, reduceCtorEq]
   (refine hK _ ?_; clear hK K)
   refine c_if _ rfl (fun hb1 => ?_) (fun hb1 => ?_) <;> (have hp1 := hb1; try simp only [] at hp1)
   cases hb1
   refine c_skip ?_
   refine c_assoc ?_
   refine c_reg fun K hK => ?_
   simp only [vm, vr, q4, reduceIte, Nat.reduceEqDiff, Nat.reduceAdd, Nat.reduceLeDiff, reduceCtorEq]
   (apply s_call (spec6 _ _); (case hf => rfl); (case hq => (simp only [vm, reduceIte, Nat.reduceEqDiff, reduceCtorEq]; rfl)); (case hvs => rfl))
   simp only [vm, vr, q4, h, reduceIte, Nat.reduceEqDiff, Nat.reduceAdd, Nat.reduceLeDiff, reduceCtorEq]
   (apply s_call (spec7 _ _); (case hf => rfl); (case hq => (simp only [vm, reduceIte, Nat.reduceEqDiff, reduceCtorEq]; rfl)); (case hvs => rfl))
   simp only [vm, vr, q4, h2, reduceIte, Nat.reduceEqDiff, Nat.reduceAdd, Nat.reduceLeDiff, reduceCtorEq]
   (apply s_call (spec15 _); (case hf => rfl); (case hq => (simp only [vm, reduceIte, Nat.reduceEqDiff, reduceCtorEq]; rfl)); (case hvs => rfl))
   simp only [vm, vr, q4, h3, reduceIte, Nat.reduceEqDiff, Nat.reduceAdd, Nat.reduceLeDiff, reduceCtorEq]
   (apply s_call (hs12); (case hf => rfl); (case hq => (simp only [vm, reduceIte, Nat.reduceEqDiff, reduceCtorEq]; rfl)); (case hvs => rfl))
   simp only [vm, vr, q4, bne_self_eq_false, reduceIte, Nat.reduceEqDiff, Nat.reduceAdd, Nat.reduceLeDiff, reduceCtorEq]
   (apply s_call (hs13); (case hf => rfl); (case hq => (simp only [vm, reduceIte, Nat.reduceEqDiff, reduceCtorEq]; rfl)); (case hvs => rfl))
   simp only [vm, vr, bne_self_eq_false, reduceIte, Nat.reduceEqDiff, reduceCtorEq]
   (refine hK _ ?_; clear hK K)
   refine c_if _ rfl (fun hb2 => ?_) (fun hb2 => ?_) <;> (have hp2 := hb2; try simp only [] at hp2)
   cases hb2
   refine c_skip ?_
   refine c_reg fun K hK => ?_
   simp only [vm, vr, q4, reduceIte, Nat.reduceEqDiff, Nat.reduceAdd, Nat.reduceLeDiff, reduceCtorEq]
   refine need_by (by first | assumption | omega | (simp; done) | (simp; omega)) ?_
   (refine hK _ ?_; clear hK K)
   refine c_draw fun K hK => ?_
   simp only [vm, vr, q4, reduceIte, Nat.reduceEqDiff, Nat.reduceAdd, Nat.reduceLeDiff, reduceCtorEq]
   (apply d_callx (spec9 _ ?s21807x1); (case hf => rfl); (case hq => (simp only [vm, reduceIte, Nat.reduceEqDiff, reduceCtorEq]; rfl)); (case hvs => rfl); (case hL => (simp only [vm, R.toL, R1.toL, rcsToL, RC.toL, siteN, reduceIte, Nat.reduceAdd, Nat.reduceMul]; rfl)); (case hfr => (simp only [vm, vr, reduceIte, Nat.reduceEqDiff, reduceCtorEq]; try rfl)); (case s21807x1 => first | assumption | omega | (simp; done) | (simp; omega)))
   simp only [vm, vr, vp, q4, reduceIte, Nat.reduceEqDiff, Nat.reduceAdd, Nat.reduceLeDiff, reduceCtorEq]
   (apply d_callx (spec10 _ ?s21808x1 ?s21808x2); (case hf => rfl); (case hq => (simp only [vm, reduceIte, Nat.reduceEqDiff, reduceCtorEq]; rfl)); (case hvs => rfl); (case hL => (simp only [vm, R.toL, R1.toL, rcsToL, RC.toL, siteN, reduceIte, Nat.reduceAdd, Nat.reduceMul, reduceCtorEq]; rfl)); (case hfr => (simp only [vm, vr, reduceIte, Nat.reduceEqDiff, reduceCtorEq]; try rfl)); (case s21808x1 | s21808x2 => first | assumption | omega | (simp; done) | (simp; omega)))
   simp only [vm, vr, q4, reduceIte, Nat.reduceEqDiff, Nat.reduceAdd, Nat.reduceLeDiff, reduceCtorEq]
   (apply d_callx (hs16); (case hf => rfl); (case hq => (simp only [vm, vr, reduceIte, Nat.reduceEqDiff, reduceCtorEq]; rfl)); (case hvs => rfl); (case hL => (simp only [vm, R.toL, R1.toL, RC.toL, r1sToL]; rfl)); (case hfr => (simp only [vr]; try rfl)))
   simp only [vm, vr, reduceIte, Nat.reduceEqDiff, reduceCtorEq]
   (refine draw_ok (by decide +kernel) (hK _ ?_); clear hK; clear K)
   refine c_draw fun K hK => ?_
   simp only [vm, vr, q4, reduceIte, Nat.reduceEqDiff, Nat.reduceAdd, Nat.reduceLeDiff, reduceCtorEq]
   (apply d_callx (spec9 _ ?s21810x1); (case hf => rfl); (case hq => (simp only [vm, reduceIte, Nat.reduceEqDiff, reduceCtorEq]; rfl)); (case hvs => rfl); (case hL => (simp only [vm, R.toL, R1.toL, rcsToL, RC.toL, siteN, reduceIte, Nat.reduceAdd, Nat.reduceMul]; rfl)); (case hfr => (simp only [vm, vr, reduceIte, Nat.reduceEqDiff, reduceCtorEq]; try rfl)); (case s21810x1 => first | assumption | omega | (simp; done) | (simp; omega)))
   simp only [vm, vr, vp, q4, reduceIte, Nat.reduceEqDiff, Nat.reduceAdd, Nat.reduceLeDiff, reduceCtorEq]
   (apply d_calla (spec18 _ ?s21811x1); (case hf => rfl); (case hq => (simp only [vm, reduceIte, Nat.reduceEqDiff, reduceCtorEq]; rfl)); (case hvs => rfl); (case hfr => (simp only [vm, reduceIte, Nat.reduceEqDiff, reduceCtorEq])); (case hfz => rfl); (case s21811x1 => first | assumption | omega | (simp; done) | (simp; omega)))
   (apply d_call2 (hs17); (case hf => rfl); (case hq => (simp only [vm, vr, reduceIte, Nat.reduceEqDiff, reduceCtorEq]; rfl)); (case hvs => rfl))
   simp only [vm, vr, reduceIte, Nat.reduceEqDiff, reduceCtorEq]
   (refine draw_ok (by decide +kernel) (hK _ ?_); clear hK; clear K)
   refine c_assoc ?_
   refine c_reg fun K hK => ?_
   simp only [vm, vr, bne_self_eq_false, reduceIte, Nat.reduceEqDiff, reduceCtorEq]
   (refine hK _ ?_; clear hK K)
   refine c_if _ rfl (fun hb3 => ?_) (fun hb3 => ?_) <;> (have hp3 := hb3; try simp only [] at hp3)
   cases hb3
   refine c_skip ?_
   refine c_draw fun K hK => ?_
   simp only [vm, vr, q4, reduceIte, Nat.reduceEqDiff, Nat.reduceAdd, Nat.reduceLeDiff, reduceCtorEq]
   (apply d_callx (spec9 _ ?s21813x1); (case hf => rfl); (case hq => (simp only [vm, reduceIte, Nat.reduceEqDiff, reduceCtorEq]; rfl)); (case hvs => rfl); (case hL => (simp only [vm, R.toL, R1.toL, rcsToL, RC.toL, siteN, reduceIte, Nat.reduceAdd, Nat.reduceMul]; rfl)); (case hfr => (simp only [vm, vr, reduceIte, Nat.reduceEqDiff, reduceCtorEq]; try rfl)); (case s21813x1 => first | assumption | omega | (simp; done) | (simp; omega)))
   simp only [vm, vr, vp, q4, reduceIte, Nat.reduceEqDiff, Nat.reduceAdd, Nat.reduceLeDiff, reduceCtorEq]
   (apply d_callx (spec10 _ ?s21814x1 ?s21814x2); (case hf => rfl); (case hq => (simp only [vm, reduceIte, Nat.reduceEqDiff, reduceCtorEq]; rfl)); (case hvs => rfl); (case hL => (simp only [vm, R.toL, R1.toL, rcsToL, RC.toL, siteN, reduceIte, Nat.reduceAdd, Nat.reduceMul, reduceCtorEq]; rfl)); (case hfr => (simp only [vm, vr, reduceIte, Nat.reduceEqDiff, reduceCtorEq]; try rfl)); (case s21814x1 | s21814x2 => first | assumption | omega | (simp; done) | (simp; omega)))
   simp only [vm, vr, q4, reduceIte, Nat.reduceEqDiff, Nat.reduceAdd, Nat.reduceLeDiff, reduceCtorEq]
   (apply d_callx (hs11); (case hf => rfl); (case hq => (simp only [vm, reduceIte, Nat.reduceEqDiff, reduceCtorEq]; rfl)); (case hvs => rfl); (case hL => (simp only [vm, R.toL, R1.toL, rcsToL, RC.toL, siteN, reduceIte, Nat.reduceAdd, Nat.reduceMul]; rfl)); (case hfr => (simp only [vm, vr, reduceIte, Nat.reduceEqDiff, reduceCtorEq]; try rfl)))
   (apply d_call2 (hs8); (case hf => rfl); (case hq => (simp only [vm, vr, vp, reduceIte, Nat.reduceEqDiff, reduceCtorEq]; rfl)); (case hvs => rfl))
   simp only [vm, vr, vp, reduceIte, Nat.reduceEqDiff, reduceCtorEq]
   (refine draw_ok (by decide +kernel) (hK _ ?_); clear hK; clear K)
   refine c_assoc ?_
   refine c_reg fun K hK => ?_
   simp only [vm, vr, k1, reduceIte, Nat.reduceEqDiff, reduceCtorEq]
   (refine hK _ ?_; clear hK K)
   refine c_if _ rfl (fun hb4 => ?_) (fun hb4 => ?_) <;> (have hp4 := hb4; try simp only [] at hp4)
   cases hb4
   refine c_skip ?_
   refine c_draw fun K hK => ?_
   simp only [vm, vr, q4, reduceIte, Nat.reduceEqDiff, Nat.reduceAdd, Nat.reduceLeDiff, reduceCtorEq]
   (apply d_callx (spec9 _ ?s21817x1); (case hf => rfl); (case hq => (simp only [vm, reduceIte, Nat.reduceEqDiff, reduceCtorEq]; rfl)); (case hvs => rfl); (case hL => (simp only [vm, R.toL, R1.toL, rcsToL, RC.toL, siteN, reduceIte, Nat.reduceAdd, Nat.reduceMul]; rfl)); (case hfr => (simp only [vm, vr, reduceIte, Nat.reduceEqDiff, reduceCtorEq]; try rfl)); (case s21817x1 => first | assumption | omega | (simp; done) | (simp; omega)))
   simp only [vm, vr, vp, q4, reduceIte, Nat.reduceEqDiff, Nat.reduceAdd, Nat.reduceLeDiff, reduceCtorEq]
   (apply d_callx (spec10 _ ?s21818x1 ?s21818x2); (case hf => rfl); (case hq => (simp only [vm, reduceIte, Nat.reduceEqDiff, reduceCtorEq]; rfl)); (case hvs => rfl); (case hL => (simp only [vm, R.toL, R1.toL, rcsToL, RC.toL, siteN, reduceIte, Nat.reduceAdd, Nat.reduceMul, reduceCtorEq]; rfl)); (case hfr => (simp only [vm, vr, reduceIte, Nat.reduceEqDiff, reduceCtorEq]; try rfl)); (case s21818x1 | s21818x2 => first | assumption | omega | (simp; done) | (simp; omega)))
   simp only [vm, vr, q4, reduceIte, Nat.reduceEqDiff, Nat.reduceAdd, Nat.reduceLeDiff, reduceCtorEq]
   (apply d_calla (spec18 _ ?s21819x1); (case hf => rfl); (case hq => (simp only [vm, reduceIte, Nat.reduceEqDiff, reduceCtorEq]; rfl)); (case hvs => rfl); (case hfr => (simp only [vm, reduceIte, Nat.reduceEqDiff, reduceCtorEq])); (case hfz => rfl); (case s21819x1 => first | assumption | omega | (simp; done) | (simp; omega)))
   (apply d_call2 (hs19); (case hf => rfl); (case hq => (simp only [vm, vr, reduceIte, Nat.reduceEqDiff, reduceCtorEq]; rfl)); (case hvs => rfl))
   simp only [vm, vr, reduceIte, Nat.reduceEqDiff, reduceCtorEq]
   (refine draw_ok (by decide +kernel) (hK _ ?_); clear hK; clear K)
   refine c_assoc ?_
   refine c_reg fun K hK => ?_
   simp only [vm, vr, k3, reduceIte, Nat.reduceEqDiff, reduceCtorEq]
   (refine hK _ ?_; clear hK K)
   refine c_if _ rfl (fun hb5 => ?_) (fun hb5 => ?_) <;> (have hp5 := hb5; try simp only [] at hp5)
   refine c_assoc ?_
   refine c_reg fun K hK => ?_
   simp only [vm, vr]
   (refine hK _ ?_; clear hK K)
   refine c_ret ?_
   simp only [vm, vr, reduceIte, Nat.reduceEqDiff, reduceCtorEq]
   cases hb5
theorem law_bounded : Sp0 4 [ctV t, csV x, .agg [nn c.op, nn c.ch, .sl (P.map lsV), .sl (l.map nn)]] (R.v (.b true)) := by
 cases h : fewB t x with
 | false => exact clv_far t x c P l hs5 h
 | true =>
  cases h2 : fvB P with
  | false => exact clv_long t x c P l hs5 h h2
  | true =>
   cases h3 : decide ((l.length : Int) ≤ 14) with
   | false => exact clv_shr t x c P l hs5 h h2 h3
   | true =>
    by_cases h0 : opE t x = 0
    ·
     by_cases hp : priE c = 0
     ·
      exact clv_ok t x c P l hs5 h h2 h3 h0 hp
     ·
      exact clv_pri t x c P l hs5 h h2 h3 h0 hp
    ·
     exact clv_op t x c P l hs5 h h2 h3 h0
end
end Go.Vm
