import Derived.Test.YtoefpbjabpaeaaaGreatDoorVmBC
import Derived.Test.YtoefpbjabpaeaaaGreatDoorWcDa
import Derived.Test.YtoefpbjabpaeaaaGreatDoorWcS
set_option linter.all false
namespace Go.Vm
open Go.Proofs
set_option maxRecDepth 20000
set_option maxHeartbeats 8000000
--DEF TAB = nn t.water; nn t.air; V.sl (t.banks.map bnkV)
--DEF STP = nn t.water; nn t.air; V.sl (t.banks.map bnkV); V.sl (x.ents.map p2); V.sl (x.tars.map p2)
/-- A valid table with a valid strip. -/
abbrev stpV (t : CTab) (x : CStrip) : V := .agg [nn t.water, nn t.air, .sl (t.banks.map bnkV), .sl (x.ents.map p2), .sl (x.tars.map p2)]
/-! sets of segments -/
def scanI {α : Type} (e : Nat → α → Int) : Nat → List α → Int
 | _, [] => 0
 | i, b :: r => if e i b ≠ 0 then e i b else scanI e (i + 1) r
theorem scanI_hit {α : Type} {e : Nat → α → Int} {i : Nat} {l : List α} (d : α) (hi : i < l.length) (h : e i (l.getD i d) ≠ 0) : scanI e i (l.drop i) = e i (l.getD i d) := by
 rw [dropS d hi, scanI, if_pos h]
theorem scanI_go {α : Type} {e : Nat → α → Int} {i : Nat} {l : List α} (d : α) (hi : i < l.length) (h : e i (l.getD i d) = 0) : scanI e i (l.drop i) = scanI e (i + 1) (l.drop (i + 1)) := by
 rw [dropS d hi, scanI, if_neg (fun c => c h)]
theorem scanI_end {α : Type} {e : Nat → α → Int} {i : Nat} {l : List α} (hi : l.length ≤ i) : scanI e i (l.drop i) = 0 := by
 rw [List.drop_eq_nil_of_le hi]; rfl
theorem scanI_zero {α : Type} {e : Nat → α → Int} : ∀ {l : List α} {i : Nat}, scanI e i l = 0 → ∀ j, j < l.length → ∀ d, e (i + j) (l.getD j d) = 0
 | [], _, _, j, hj, _ => by simp at hj
 | b :: r, i, h, j, hj, d => by
  simp only [scanI] at h
  by_cases c : e i b = 0
  ·
   rw [if_neg (by simp [c])] at h
   cases j with
   | zero => simpa using c
   | succ j =>
    have := scanI_zero h j (by simpa using hj) d
    rw [show i + (j + 1) = i + 1 + j by omega]
    simpa using this
  ·
   rw [if_pos c] at h; exact (c h).elim
def cntE (n : Nat) : Int := firstV [if decide ((n : Int) > 0) = true then 0 else 10, if decide ((n : Int) ≤ 12) = true then 0 else 8]
theorem spec36 (n : Nat) : Sp0 36 [nn n] (R.v (nn (cntE n))) := by
 refine spec_of mixed (fun _ _ _ h => h) Tryz.func36 (by decide +kernel) rfl (rs := _) rfl (by rfl) rfl (by simp [Tryz.f36]) (by decide +kernel) ?_; simp only [argsG]
 refine c_reg fun K hK => ?_
 simp only [vm]
 (refine hK _ ?_; clear hK K)
 refine c_reg fun K hK => ?_
 simp only [vm, reduceIte, Nat.reduceEqDiff, reduceCtorEq]
 (apply s_call (spec40 _ _); (case hf => rfl); (case hq => (simp only [vm, reduceIte, Nat.reduceEqDiff, reduceCtorEq]; rfl)); (case hvs => rfl))
 simp only [vm, reduceIte, Nat.reduceEqDiff, reduceCtorEq]
 (apply s_call (spec40 _ _); (case hf => rfl); (case hq => (simp only [vm, reduceIte, Nat.reduceEqDiff, reduceCtorEq]; rfl)); (case hvs => rfl))
 simp only [vm, vr, q36, reduceIte, Nat.reduceEqDiff, Nat.reduceAdd, Nat.reduceLeDiff, Nat.reduceMul, reduceCtorEq]
 refine need_by (by first | assumption | omega | (simp; done) | (simp; omega)) ?_
 (apply s_call (spec34w2 _ _); (case hf => rfl); (case hq => (simp only [vm, reduceIte, Nat.reduceEqDiff, reduceCtorEq]; rfl)); (case hvs => rfl))
 simp only [vm, vr, reduceIte, Nat.reduceEqDiff, reduceCtorEq]
 (refine hK _ ?_; clear hK K)
 refine c_ret1 ?_
 simp only [vm, vr, reduceIte, Nat.reduceEqDiff, reduceCtorEq]
 rfl
/-! strips -/
theorem spec45 (t : CTab) (x : CStrip) (hb : t.banks.length < 1000000) (hl : x.ents.length < 1000000) (h2 : x.tars.length < 1000000) : Sp0 45 [ctV t, csV x] (R.v2 (stpV t x) (nn (firstV [(tabE t).2, (strE x).2]))) := by
 refine spec_of mixed (fun _ _ _ h => h) Tryz.func45 (by decide +kernel) rfl (rs := _) rfl (by rfl) rfl (by simp [Tryz.f45]) (by decide +kernel) ?_; simp only [argsG, Nat.zero_add]
 refine c_reg fun K hK => ?_
 simp only [vm, vr, q45, reduceIte, Nat.reduceEqDiff, Nat.reduceAdd, reduceCtorEq]
 refine need_by (by first | assumption | omega | (simp; done) | (simp; omega)) ?_
 refine need_by (by first | assumption | omega | (simp; done) | (simp; omega)) ?_
 refine need_by (by first | assumption | omega | (simp; done) | (simp; omega)) ?_
 (refine hK _ ?_; clear hK K)
 refine c_draw fun K hK => ?_
 simp only [vm, vr, q45, reduceIte, Nat.reduceEqDiff, Nat.reduceAdd, Nat.reduceLeDiff, reduceCtorEq]
 (apply d_call (spec35 _ ?s8601x1); (case hf => rfl); (case hq => (simp only [vm, reduceIte, Nat.reduceEqDiff, reduceCtorEq]; rfl)); (case hvs => rfl); (case s8601x1 => first | assumption | omega | (simp; done) | (simp; omega)))
 simp only [vm, vr, q45, reduceIte, Nat.reduceEqDiff, Nat.reduceAdd, Nat.reduceLeDiff, reduceCtorEq]
 (apply d_call (spec74 _ ?s8602x1 ?s8602x2); (case hf => rfl); (case hq => (simp only [vm, reduceIte, Nat.reduceEqDiff, reduceCtorEq]; rfl)); (case hvs => rfl); (case s8602x1 | s8602x2 => first | assumption | omega | (simp; done) | (simp; omega)))
 simp only [vm, vr, q45, reduceIte, Nat.reduceEqDiff, Nat.reduceAdd, Nat.reduceLeDiff, Nat.reduceMul, reduceCtorEq]
 refine need_by (by first | assumption | omega | (simp; done) | (simp; omega)) ?_
 (apply d_call (spec34w2 _ _); (case hf => rfl); (case hq => (simp only [vm, reduceIte, Nat.reduceEqDiff, reduceCtorEq]; rfl)); (case hvs => rfl))
 simp only [vm, vr, q45, reduceIte, Nat.reduceEqDiff, Nat.reduceAdd, Nat.reduceLeDiff, reduceCtorEq]
 (refine draw_ok (by decide +kernel) (hK _ ?_); clear hK; clear K)
 refine c_ret1 ?_
 simp only [vm, vr, q45, reduceIte, Nat.reduceEqDiff, Nat.reduceAdd, Nat.reduceLeDiff, reduceCtorEq]
structure StrOk (x : CStrip) : Prop where
 len : 1 ≤ x.ents.length ∧ x.ents.length ≤ 12
 same : x.tars.length = x.ents.length
 ent : ∀ i, i < x.ents.length → rgE (x.ents.getD i default) 12000 = 0
 tar : ∀ i, i < x.ents.length → rgE (x.tars.getD i default) 12000 = 0
theorem str_ok {x : CStrip} (h : (strE x).2 = 0) : StrOk x := by
 unfold strE at h
 by_cases c : shE x = 0
 ·
  rw [if_neg (by simp [c])] at h
  obtain ⟨a, b, d⟩ := sh_ok c
  have hsm : x.tars.length = x.ents.length := by omega
  have hz : ∀ i, i < x.ents.length → segE (x.ents.getD i default, x.tars.getD i default) = 0 := fun i hi => by
   have := scan_zero h _ (getD_memC (show i < (x.ents.zip x.tars).length by rw [zip_len hsm]; exact hi))
   rwa [zip_at hsm hi] at this
  refine ⟨⟨by omega, by omega⟩, hsm, fun i hi => ?_, fun i hi => ?_⟩
  ·
   exact firstV_zero (hz i hi) _ (by simp)
  ·
   exact firstV_zero (hz i hi) _ (List.mem_cons_of_mem _ (by simp))
 ·
  rw [if_pos c] at h; exact (c h).elim
theorem spec78 (a b : Int × Int) : Sp0 78 [p2 a, p2 b] (R.v (.b (decide (a.1 ≤ b.2) && decide (b.1 ≤ a.2)))) := by
 refine spec_of mixed (fun _ _ _ h => h) Tryz.func78 (by decide +kernel) rfl (rs := _) rfl (by rfl) rfl (by simp [Tryz.f78]) (by decide +kernel) ?_; simp only [argsG, Nat.zero_add]
 refine c_reg fun K hK => ?_
 simp only [vm, vr, reduceIte, Nat.reduceEqDiff, Nat.reduceAdd, reduceCtorEq]
 refine need_by (by first | assumption | omega | (simp; done) | (simp; omega)) ?_
 refine need_by (by first | assumption | omega | (simp; done) | (simp; omega)) ?_
 (refine hK _ ?_; clear hK K)
 refine c_reg fun K hK => ?_
 simp only [vm, vr, q78, reduceIte, Nat.reduceEqDiff, Nat.reduceAdd, Nat.reduceLeDiff, reduceCtorEq]
 refine guard_by (fun hb1 => ?_) (fun hb1 => ?_) <;> (have hp1 := hb1; try simp only [decide_eq_true_eq, decide_eq_false_iff_not, Int.not_le] at hp1)
 simp only [vm, hb1]
 (refine hK _ ?_; clear hK K)
 refine c_ret1 ?_
 simp only [vm, vr, hb1, reduceIte, Nat.reduceEqDiff, reduceCtorEq]
 rfl
 simp only [vm, hb1]
 (refine hK _ ?_; clear hK K)
 refine c_ret1 ?_
 simp only [vm, vr, hb1, reduceIte, Nat.reduceEqDiff, reduceCtorEq]
 rfl
end Go.Vm
