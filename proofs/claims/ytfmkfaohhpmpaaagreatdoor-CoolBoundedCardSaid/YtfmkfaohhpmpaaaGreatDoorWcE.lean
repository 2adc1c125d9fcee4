import Derived.Test.YtfmkfaohhpmpaaaGreatDoorVmBC
import Derived.Test.YtfmkfaohhpmpaaaGreatDoorWcDa
import Derived.Test.YtfmkfaohhpmpaaaGreatDoorWcS
set_option linter.all false
namespace Go.Vm
open Go.Proofs
set_option maxRecDepth 20000
set_option maxHeartbeats 8000000
--DEF TAB = nn t.water; nn t.air; V.sl (t.banks.map bnkV)
--DEF STP = nn t.water; nn t.air; V.sl (t.banks.map bnkV); V.sl (x.ents.map p2); V.sl (x.tars.map p2)
/-- A valid table with a valid strip. -/
abbrev stpV (t : CTab) (x : CStrip) : V := .agg [nn t.water, nn t.air, .sl (t.banks.map bnkV), .sl (x.ents.map p2), .sl (x.tars.map p2)]
/-! sets of segments -/
def scanI {α : Type} (e : Nat → α → Int) : Nat → List α → Int
 | _, [] => 0
 | i, b :: r => if e i b ≠ 0 then e i b else scanI e (i + 1) r
theorem scanI_hit {α : Type} {e : Nat → α → Int} {i : Nat} {l : List α} (d : α) (hi : i < l.length) (h : e i (l.getD i d) ≠ 0) : scanI e i (l.drop i) = e i (l.getD i d) := by
 rw [dropS d hi, scanI, if_pos h]
theorem scanI_go {α : Type} {e : Nat → α → Int} {i : Nat} {l : List α} (d : α) (hi : i < l.length) (h : e i (l.getD i d) = 0) : scanI e i (l.drop i) = scanI e (i + 1) (l.drop (i + 1)) := by
 rw [dropS d hi, scanI, if_neg (fun c => c h)]
theorem scanI_end {α : Type} {e : Nat → α → Int} {i : Nat} {l : List α} (hi : l.length ≤ i) : scanI e i (l.drop i) = 0 := by
 rw [List.drop_eq_nil_of_le hi]; rfl
theorem scanI_zero {α : Type} {e : Nat → α → Int} : ∀ {l : List α} {i : Nat}, scanI e i l = 0 → ∀ j, j < l.length → ∀ d, e (i + j) (l.getD j d) = 0
 | [], _, _, j, hj, _ => by simp at hj
 | b :: r, i, h, j, hj, d => by
  simp only [scanI] at h
  by_cases c : e i b = 0
  ·
   rw [if_neg (by simp [c])] at h
   cases j with
   | zero => simpa using c
   | succ j =>
    have := scanI_zero h j (by simpa using hj) d
    rw [show i + (j + 1) = i + 1 + j by omega]
    simpa using this
  ·
   rw [if_pos c] at h; exact (c h).elim
def oneE (t : CTab) (i : Nat) (n : Int) : Int := if setE t n ≠ 0 then setE t n else if subB n.toNat (avV t i) then 0 else 24
def setsE (t : CTab) (l : List Int) : Int := scanI (oneE t) 0 l
theorem one_bad {t : CTab} {i : Nat} {n : Int} (h : setE t n ≠ 0) : oneE t i n = setE t n := by unfold oneE; rw [if_pos h]
theorem one_ok {t : CTab} {i s : Nat} (h : setE t (s : Int) = 0) : oneE t i (s : Int) = if subB s (avV t i) = true then 0 else 24 := by unfold oneE; rw [if_neg (fun c => c h), Int.toNat_natCast]
def cntE (n : Nat) : Int := firstV [if decide ((n : Int) > 0) = true then 0 else 10, if decide ((n : Int) ≤ 12) = true then 0 else 8]
theorem spec56 (n : Nat) : Sp0 56 [nn n] (R.v (nn (cntE n))) := by
 refine spec_of mixed (fun _ _ _ h => h) Tryz.func56 (by decide +kernel) rfl (rs := _) rfl (by rfl) rfl (by simp [Tryz.f56]) (by decide +kernel) ?_; simp only [argsG]
 refine c_reg fun K hK => ?_
 simp only [vm]
 (refine hK _ ?_; clear hK K)
 refine c_reg fun K hK => ?_
 simp only [vm, reduceIte, Nat.reduceEqDiff, reduceCtorEq]
 (apply s_call (spec39 _ _); (case hf => rfl); (case hq => (simp only [vm, reduceIte, Nat.reduceEqDiff, reduceCtorEq]; rfl)); (case hvs => rfl))
 simp only [vm, reduceIte, Nat.reduceEqDiff, reduceCtorEq]
 (apply s_call (spec39 _ _); (case hf => rfl); (case hq => (simp only [vm, reduceIte, Nat.reduceEqDiff, reduceCtorEq]; rfl)); (case hvs => rfl))
 simp only [vm, vr, q56, reduceIte, Nat.reduceEqDiff, Nat.reduceAdd, Nat.reduceLeDiff, Nat.reduceMul, reduceCtorEq]
 refine need_by (by first | assumption | omega | (simp; done) | (simp; omega)) ?_
 (apply s_call (spec37w2 _ _); (case hf => rfl); (case hq => (simp only [vm, reduceIte, Nat.reduceEqDiff, reduceCtorEq]; rfl)); (case hvs => rfl))
 simp only [vm, vr, reduceIte, Nat.reduceEqDiff, reduceCtorEq]
 (refine hK _ ?_; clear hK K)
 refine c_ret1 ?_
 simp only [vm, vr, reduceIte, Nat.reduceEqDiff, reduceCtorEq]
 rfl
theorem spec57 (t : CTab) (l : List Int) (ht : TabOk t) (hl : l.length ≤ 1000) : Sp0 57 [ctV t, .sl (l.map nn)] (R.v (nn (setsE t l))) := by
 have h4 := ht.len.2
 refine spec_of mixed (fun _ _ _ h => h) Tryz.func57 (by decide +kernel) rfl (rs := _) rfl (by rfl) rfl (by simp [Tryz.f57]) (by decide +kernel) ?_; simp only [argsG, Nat.zero_add]
 refine c_reg fun K hK => ?_
 simp only [vm, vr, reduceIte, Nat.reduceAdd, reduceCtorEq]
 refine need_by (by first | assumption | omega | (simp; done) | (simp; omega)) ?_
 (refine hK _ ?_; clear hK K)
 refine c_assoc ?_
 refine c_reg fun K hK => ?_
 simp only [vm, vr, q57, reduceIte, Nat.reduceEqDiff, reduceCtorEq]
 (refine hK _ ?_; clear hK K)
 refine c_block ?_
 refine vcode_loop (fun i : Nat => [(2, L.own 2 0), (4, L.p (nn 0)), (8, L.p (V.sl (List.map nn l))), (9, L.p (nn l.length)), (10, L.p (nn i))]) (fun _ => [(Key.b 2, M.box 3), (Key.c 2 0, M.cell (L.p (nn t.water))), (Key.c 2 1, M.cell (L.p (nn t.air))), (Key.c 2 2, M.cell (L.p (V.sl (t.banks.map bnkV))))]) (fun i => i ≤ l.length ∧ setsE t l = scanI (oneE t) i (l.drop i)) (fun i => l.length - i) 0 ⟨Nat.zero_le _, rfl⟩ ?_ ?_
 ·
  simp only [vm, vmk, reduceIte, Nat.reduceEqDiff, Nat.reduceAdd, Nat.reduceLT, reduceCtorEq]
 ·
  rintro i ⟨hi, hq⟩
  rcases Nat.lt_or_ge i l.length with hil | hil
  ·
   have kl : decide ((i : Int) < (l.length : Int)) = true := decide_eq_true (by omega)
   have hs86 := spec86 t i ht (by omega)
   have hs60 := spec60 t (l.getD i 0) h4
   by_cases c1 : setE t (l.getD i 0) = 0
   ·
    obtain ⟨s, es, s1, s2⟩ := set_ok ht c1
    rw [es] at hs60 c1
    have wS : IntKind.wrap .u64 (s : Int) = (s : Int) := wrU (by omega) (by omega)
    have kb := sub_at s s2 _ (avV_lt (seg := i) h4)
    have eo : oneE t i (l.getD i 0) = if subB s (avV t i) = true then 0 else 24 := by rw [es, one_ok c1]
    rw [c1] at hs60
    cases c2 : subB s (avV t i) with
    | true =>
     rw [c2] at eo kb
     have kf : firstV [0, 0] = 0 := rfl
     refine c_reg fun K hK => ?_
     simp only [vm, vr, kl, reduceIte, Nat.reduceEqDiff]
     (refine hK _ ?_; clear hK K)
     refine c_if _ rfl (fun hb1 => ?_) (fun hb1 => ?_) <;> (have hp1 := hb1; try simp only [] at hp1)
     refine c_skip ?_
     refine c_block ?_
     refine c_reg fun K hK => ?_
     simp only [vm, vr, q57, reduceIte, Nat.reduceEqDiff]
     (refine atI_map 0 (by first | assumption | omega | (simp; done) | (simp; omega)) (by first | assumption | omega | (simp; done) | (simp; omega)) ?_; simp only [vm, vr, q57, es])
     (refine hK _ ?_; clear hK K)
     refine c_draw fun K hK => ?_
     simp only [vm, vr, q57, reduceIte, Nat.reduceEqDiff, Nat.reduceAdd, Nat.reduceLeDiff, reduceCtorEq]
     (apply d_call (hs60); (case hf => rfl); (case hq => (simp only [vm, reduceIte, Nat.reduceEqDiff]; rfl)); (case hvs => rfl))
     simp only [vm, vr, q57, wS, cvis, reduceIte, Nat.reduceEqDiff, Nat.reduceAdd, Nat.reduceLeDiff, reduceCtorEq]
     (apply d_call (hs86); (case hf => rfl); (case hq => (simp only [vm, reduceIte, Nat.reduceEqDiff]; rfl)); (case hvs => rfl))
     simp only [vm, vr, kb, reduceIte, Nat.reduceEqDiff]
     (apply d_call (spec39 _ _); (case hf => rfl); (case hq => (simp only [vm, reduceIte, Nat.reduceEqDiff]; rfl)); (case hvs => rfl))
     simp only [vm, vr, q57, reduceIte, Nat.reduceEqDiff, Nat.reduceAdd, Nat.reduceLeDiff, Nat.reduceMul, reduceCtorEq]
     refine need_by (by first | assumption | omega | (simp; done) | (simp; omega)) ?_
     (apply d_call (spec37w2 _ _); (case hf => rfl); (case hq => (simp only [vm, reduceIte, Nat.reduceEqDiff, reduceCtorEq]; rfl)); (case hvs => rfl))
     simp only [vm, vr, kf, reduceIte, Nat.reduceEqDiff]
     (refine draw_ok (by decide +kernel) (hK _ ?_); clear hK; clear K)
     refine c_reg fun K hK => ?_
     simp only [vm, vr, bne_self_eq_false, reduceIte, Nat.reduceEqDiff]
     (refine hK _ ?_; clear hK K)
     refine vcode_if _ rfl (fun hb2 => ?_) (fun hb2 => ?_) <;> (have hp2 := hb2; try simp only [] at hp2)
     cases hb2
     refine c_skip1 ?_
     simp only [thenV_n, blockV_n]
     refine c_reg1 fun K hK => ?_
     simp only [vm, vr, reduceIte, Nat.reduceEqDiff]
     (simp (disch := omega) only [wr64]; try simp only [vm, vr, vt, vp, q57, mapbnk, kl, es, wS, kb, cvis, kf, hb1, hb2, Int.reduceBNe, Int.reduceBEq, Int.reduceLT, Int.reduceLE, Int.reduceGT, Int.reduceGE, decide_true, decide_false, bne_self_eq_false, beq_self_eq_true, reduceIte, Nat.reduceEqDiff, Nat.reduceAdd, Nat.reduceLeDiff, Nat.reduceMul, Nat.reduceLT, reduceCtorEq])
     (refine hK _ ?_; clear hK K)
     simp only [thenV_n]
     rotate_left
     cases hb1
     refine ⟨i + 1, ?_, ⟨by omega, by rw [hq, scanI_go 0 hil eo]⟩, by omega⟩
     ((show Wk _ _ _; simp only [vm, vmk, reduceIte, Nat.reduceEqDiff, Nat.reduceAdd, Nat.reduceLT, reduceCtorEq]; (try simp (disch := omega) only [wr64]); try omega))
    | false =>
     rw [c2] at eo kb
     have kf : firstV [0, 24] = 24 := rfl
     rw [hq, scanI_hit 0 hil (by rw [eo]; decide), eo]
     refine c_reg fun K hK => ?_
     simp only [vm, vr, kl, reduceIte, Nat.reduceEqDiff]
     (refine hK _ ?_; clear hK K)
     refine c_if _ rfl (fun hb1 => ?_) (fun hb1 => ?_) <;> (have hp1 := hb1; try simp only [] at hp1)
     refine c_skip ?_
     refine c_block ?_
     refine c_reg fun K hK => ?_
     simp only [vm, vr, q57, reduceIte, Nat.reduceEqDiff]
     (refine atI_map 0 (by first | assumption | omega | (simp; done) | (simp; omega)) (by first | assumption | omega | (simp; done) | (simp; omega)) ?_; simp only [vm, vr, q57, es])
     (refine hK _ ?_; clear hK K)
     refine c_draw fun K hK => ?_
     simp only [vm, vr, q57, reduceIte, Nat.reduceEqDiff, Nat.reduceAdd, Nat.reduceLeDiff, reduceCtorEq]
     (apply d_call (hs60); (case hf => rfl); (case hq => (simp only [vm, reduceIte, Nat.reduceEqDiff]; rfl)); (case hvs => rfl))
     simp only [vm, vr, q57, wS, cvis, reduceIte, Nat.reduceEqDiff, Nat.reduceAdd, Nat.reduceLeDiff, reduceCtorEq]
     (apply d_call (hs86); (case hf => rfl); (case hq => (simp only [vm, reduceIte, Nat.reduceEqDiff]; rfl)); (case hvs => rfl))
     simp only [vm, vr, kb, reduceIte, Nat.reduceEqDiff]
     (apply d_call (spec39 _ _); (case hf => rfl); (case hq => (simp only [vm, reduceIte, Nat.reduceEqDiff]; rfl)); (case hvs => rfl))
     simp only [vm, vr, q57, reduceIte, Nat.reduceEqDiff, Nat.reduceAdd, Nat.reduceLeDiff, Nat.reduceMul, reduceCtorEq]
     refine need_by (by first | assumption | omega | (simp; done) | (simp; omega)) ?_
     (apply d_call (spec37w2 _ _); (case hf => rfl); (case hq => (simp only [vm, reduceIte, Nat.reduceEqDiff, reduceCtorEq]; rfl)); (case hvs => rfl))
     simp only [vm, vr, kf, reduceIte, Nat.reduceEqDiff]
     (refine draw_ok (by decide +kernel) (hK _ ?_); clear hK; clear K)
     refine c_reg fun K hK => ?_
     simp only [vm, vr, Int.reduceBNe, reduceIte, Nat.reduceEqDiff]
     (refine hK _ ?_; clear hK K)
     refine vcode_if _ rfl (fun hb2 => ?_) (fun hb2 => ?_) <;> (have hp2 := hb2; try simp only [] at hp2)
     refine c_reg fun K hK => ?_
     simp only [vm, vr, reduceIte, Nat.reduceEqDiff]
     (refine hK _ ?_; clear hK K)
     refine c_ret1 ?_
     simp only [thenV_r, blockV_r]
     simp only [vm, vr, reduceIte, Nat.reduceEqDiff, reduceCtorEq]
     cases hb2
     cases hb1
   ·
    have kf : ∀ X : Int, firstV [setE t (l.getD i 0), X] = setE t (l.getD i 0) := fun X => first_cons1 c1
    have k2 : (setE t (l.getD i 0) != 0) = true := bne_iff_ne.2 c1
    rw [hq, scanI_hit 0 hil (by rw [one_bad c1]; exact c1), one_bad c1]
    refine c_reg fun K hK => ?_
    simp only [vm, vr, kl, reduceIte, Nat.reduceEqDiff]
    (refine hK _ ?_; clear hK K)
    refine c_if _ rfl (fun hb1 => ?_) (fun hb1 => ?_) <;> (have hp1 := hb1; try simp only [] at hp1)
    refine c_skip ?_
    refine c_block ?_
    refine c_reg fun K hK => ?_
    simp only [vm, vr, q57, reduceIte, Nat.reduceEqDiff]
    (refine atI_map 0 (by first | assumption | omega | (simp; done) | (simp; omega)) (by first | assumption | omega | (simp; done) | (simp; omega)) ?_; simp only [vm, vr, q57])
    (refine hK _ ?_; clear hK K)
    refine c_draw fun K hK => ?_
    simp only [vm, vr, q57, reduceIte, Nat.reduceEqDiff, Nat.reduceAdd, Nat.reduceLeDiff, reduceCtorEq]
    (apply d_call (hs60); (case hf => rfl); (case hq => (simp only [vm, reduceIte, Nat.reduceEqDiff]; rfl)); (case hvs => rfl))
    simp only [vm, vr, q57, cvis, reduceIte, Nat.reduceEqDiff, Nat.reduceAdd, Nat.reduceLeDiff, reduceCtorEq]
    (apply d_call (hs86); (case hf => rfl); (case hq => (simp only [vm, reduceIte, Nat.reduceEqDiff]; rfl)); (case hvs => rfl))
    simp only [vm, vr, reduceIte, Nat.reduceEqDiff]
    (apply d_call (spec39 _ _); (case hf => rfl); (case hq => (simp only [vm, reduceIte, Nat.reduceEqDiff]; rfl)); (case hvs => rfl))
    simp only [vm, vr, q57, reduceIte, Nat.reduceEqDiff, Nat.reduceAdd, Nat.reduceLeDiff, Nat.reduceMul, reduceCtorEq]
    refine need_by (by first | assumption | omega | (simp; done) | (simp; omega)) ?_
    (apply d_call (spec37w2 _ _); (case hf => rfl); (case hq => (simp only [vm, reduceIte, Nat.reduceEqDiff, reduceCtorEq]; rfl)); (case hvs => rfl))
    simp only [vm, vr, kf, reduceIte, Nat.reduceEqDiff]
    (refine draw_ok (by decide +kernel) (hK _ ?_); clear hK; clear K)
    refine c_reg fun K hK => ?_
    simp only [vm, vr, k2, reduceIte, Nat.reduceEqDiff]
    (refine hK _ ?_; clear hK K)
    refine vcode_if _ rfl (fun hb2 => ?_) (fun hb2 => ?_) <;> (have hp2 := hb2; try simp only [] at hp2)
    refine c_reg fun K hK => ?_
    simp only [vm, vr, reduceIte, Nat.reduceEqDiff]
    (refine hK _ ?_; clear hK K)
    refine c_ret1 ?_
    simp only [thenV_r, blockV_r]
    simp only [vm, vr, reduceIte, Nat.reduceEqDiff]
    cases hb2
    cases hb1
  ·
   have kl : decide ((i : Int) < (l.length : Int)) = false := decide_eq_false (by omega)
   rw [hq, scanI_end hil]
   refine c_reg fun K hK => ?_
   simp only [vm, vr, kl, reduceIte, Nat.reduceEqDiff]
   (refine hK _ ?_; clear hK K)
   refine c_if _ rfl (fun hb1 => ?_) (fun hb1 => ?_) <;> (have hp1 := hb1; try simp only [] at hp1)
   cases hb1
   refine c_exit ?_
   simp only [thenV_n, thenV_e, blockV_e, reduceIte]
   refine c_reg fun K hK => ?_
   simp only [vm, vr]
   (refine hK _ ?_; clear hK K)
   refine c_ret1 ?_
   simp only [vm, vr, reduceIte, Nat.reduceEqDiff]
/-! strips -/
theorem spec29 (t : CTab) (x : CStrip) (hb : t.banks.length < 1000000) (hl : x.ents.length < 1000000) (h2 : x.tars.length < 1000000) : Sp0 29 [ctV t, csV x] (R.v2 (stpV t x) (nn (firstV [(tabE t).2, (strE x).2]))) := by
 refine spec_of mixed (fun _ _ _ h => h) Tryz.func29 (by decide +kernel) rfl (rs := _) rfl (by rfl) rfl (by simp [Tryz.f29]) (by decide +kernel) ?_; simp only [argsG, Nat.zero_add]
 refine c_reg fun K hK => ?_
 simp only [vm, vr, q29, reduceIte, Nat.reduceEqDiff, Nat.reduceAdd, reduceCtorEq]
 refine need_by (by first | assumption | omega | (simp; done) | (simp; omega)) ?_
 refine need_by (by first | assumption | omega | (simp; done) | (simp; omega)) ?_
 refine need_by (by first | assumption | omega | (simp; done) | (simp; omega)) ?_
 (refine hK _ ?_; clear hK K)
 refine c_draw fun K hK => ?_
 simp only [vm, vr, q29, reduceIte, Nat.reduceEqDiff, Nat.reduceAdd, Nat.reduceLeDiff, reduceCtorEq]
 (apply d_call (spec55 _ ?s8601x1); (case hf => rfl); (case hq => (simp only [vm, reduceIte, Nat.reduceEqDiff, reduceCtorEq]; rfl)); (case hvs => rfl); (case s8601x1 => first | assumption | omega | (simp; done) | (simp; omega)))
 simp only [vm, vr, q29, reduceIte, Nat.reduceEqDiff, Nat.reduceAdd, Nat.reduceLeDiff, reduceCtorEq]
 (apply d_call (spec73 _ ?s8602x1 ?s8602x2); (case hf => rfl); (case hq => (simp only [vm, reduceIte, Nat.reduceEqDiff, reduceCtorEq]; rfl)); (case hvs => rfl); (case s8602x1 | s8602x2 => first | assumption | omega | (simp; done) | (simp; omega)))
 simp only [vm, vr, q29, reduceIte, Nat.reduceEqDiff, Nat.reduceAdd, Nat.reduceLeDiff, Nat.reduceMul, reduceCtorEq]
 refine need_by (by first | assumption | omega | (simp; done) | (simp; omega)) ?_
 (apply d_call (spec37w2 _ _); (case hf => rfl); (case hq => (simp only [vm, reduceIte, Nat.reduceEqDiff, reduceCtorEq]; rfl)); (case hvs => rfl))
 simp only [vm, vr, q29, reduceIte, Nat.reduceEqDiff, Nat.reduceAdd, Nat.reduceLeDiff, reduceCtorEq]
 (refine draw_ok (by decide +kernel) (hK _ ?_); clear hK; clear K)
 refine c_ret1 ?_
 simp only [vm, vr, q29, reduceIte, Nat.reduceEqDiff, Nat.reduceAdd, Nat.reduceLeDiff, reduceCtorEq]
structure StrOk (x : CStrip) : Prop where
 len : 1 ≤ x.ents.length ∧ x.ents.length ≤ 12
 same : x.tars.length = x.ents.length
 ent : ∀ i, i < x.ents.length → rgE (x.ents.getD i default) 12000 = 0
 tar : ∀ i, i < x.ents.length → rgE (x.tars.getD i default) 12000 = 0
theorem str_ok {x : CStrip} (h : (strE x).2 = 0) : StrOk x := by
 unfold strE at h
 by_cases c : shE x = 0
 ·
  rw [if_neg (by simp [c])] at h
  obtain ⟨a, b, d⟩ := sh_ok c
  have hsm : x.tars.length = x.ents.length := by omega
  have hz : ∀ i, i < x.ents.length → segE (x.ents.getD i default, x.tars.getD i default) = 0 := fun i hi => by
   have := scan_zero h _ (getD_memC (show i < (x.ents.zip x.tars).length by rw [zip_len hsm]; exact hi))
   rwa [zip_at hsm hi] at this
  refine ⟨⟨by omega, by omega⟩, hsm, fun i hi => ?_, fun i hi => ?_⟩
  ·
   exact firstV_zero (hz i hi) _ (by simp)
  ·
   exact firstV_zero (hz i hi) _ (List.mem_cons_of_mem _ (by simp))
 ·
  rw [if_pos c] at h; exact (c h).elim
def ansV (r t : Int × Int) : Int := if decide (t.1 ≤ r.1) && decide (r.2 ≤ t.2) then 2 else if decide (r.1 ≤ t.2) && decide (t.1 ≤ r.2) then 1 else 0
theorem spec87 (a b : Int × Int) : Sp0 87 [p2 a, p2 b] (R.v (.b (decide (a.1 ≤ b.2) && decide (b.1 ≤ a.2)))) := by
 refine spec_of mixed (fun _ _ _ h => h) Tryz.func87 (by decide +kernel) rfl (rs := _) rfl (by rfl) rfl (by simp [Tryz.f87]) (by decide +kernel) ?_; simp only [argsG, Nat.zero_add]
 refine c_reg fun K hK => ?_
 simp only [vm, vr, reduceIte, Nat.reduceEqDiff, Nat.reduceAdd, reduceCtorEq]
 refine need_by (by first | assumption | omega | (simp; done) | (simp; omega)) ?_
 refine need_by (by first | assumption | omega | (simp; done) | (simp; omega)) ?_
 (refine hK _ ?_; clear hK K)
 refine c_reg fun K hK => ?_
 simp only [vm, vr, q87, reduceIte, Nat.reduceEqDiff, Nat.reduceAdd, Nat.reduceLeDiff, reduceCtorEq]
 refine guard_by (fun hb1 => ?_) (fun hb1 => ?_) <;> (have hp1 := hb1; try simp only [decide_eq_true_eq, decide_eq_false_iff_not, Int.not_le] at hp1)
 simp only [vm, hb1]
 (refine hK _ ?_; clear hK K)
 refine c_ret1 ?_
 simp only [vm, vr, hb1, reduceIte, Nat.reduceEqDiff, reduceCtorEq]
 rfl
 simp only [vm, hb1]
 (refine hK _ ?_; clear hK K)
 refine c_ret1 ?_
 simp only [vm, vr, hb1, reduceIte, Nat.reduceEqDiff, reduceCtorEq]
 rfl
theorem spec101 (a b : Int × Int) : Sp0 101 [p2 a, p2 b] (R.v (nn (ansV a b))) := by
 refine spec_of mixed (fun _ _ _ h => h) Tryz.func101 (by decide +kernel) rfl (rs := _) rfl (by rfl) rfl (by simp [Tryz.f101]) (by decide +kernel) ?_; simp only [argsG, Nat.zero_add]
 refine c_reg fun K hK => ?_
 simp only [vm, vr, reduceIte, Nat.reduceEqDiff, Nat.reduceAdd, reduceCtorEq]
 refine need_by (by first | assumption | omega | (simp; done) | (simp; omega)) ?_
 refine need_by (by first | assumption | omega | (simp; done) | (simp; omega)) ?_
 (refine hK _ ?_; clear hK K)
 refine c_assoc ?_
 refine c_reg fun K hK => ?_
 simp only [vm, vr, q101, reduceIte, Nat.reduceEqDiff, Nat.reduceAdd, Nat.reduceLeDiff, reduceCtorEq]
 refine guard_by (fun hb1 => ?_) (fun hb1 => ?_) <;> (have hp1 := hb1; try simp only [decide_eq_true_eq, decide_eq_false_iff_not, Int.not_le] at hp1)
 simp only [vm, hb1]
 (refine hK _ ?_; clear hK K)
 refine c_if _ rfl (fun hb2 => ?_) (fun hb2 => ?_) <;> (have hp2 := hb2; try simp only [decide_eq_true_eq, decide_eq_false_iff_not, Int.not_le] at hp2)
 refine c_assoc ?_
 refine c_reg fun K hK => ?_
 simp only [vm, vr, hb2]
 (refine hK _ ?_; clear hK K)
 refine c_ret ?_
 simp only [vm, vr, reduceIte, Nat.reduceEqDiff, reduceCtorEq]
 rotate_left
 refine c_skip ?_
 refine c_assoc ?_
 refine c_reg fun K hK => ?_
 simp only [vm, vr, q101, hb2, reduceIte, Nat.reduceEqDiff, Nat.reduceAdd, Nat.reduceLeDiff, reduceCtorEq]
 refine guard_by (fun hb3 => ?_) (fun hb3 => ?_) <;> (have hp3 := hb3; try simp only [decide_eq_true_eq, decide_eq_false_iff_not, Int.not_lt] at hp3)
 simp only [vm, hb3]
 (refine hK _ ?_; clear hK K)
 refine c_if _ rfl (fun hb4 => ?_) (fun hb4 => ?_) <;> (have hp4 := hb4; try simp only [] at hp4)
 refine c_assoc ?_
 refine c_reg fun K hK => ?_
 simp only [vm, vr]
 (refine hK _ ?_; clear hK K)
 refine c_ret ?_
 simp only [vm, vr, reduceIte, Nat.reduceEqDiff, reduceCtorEq]
 rotate_left
 cases hb4
 simp only [vm, hb3]
 (refine hK _ ?_; clear hK K)
 refine c_if _ rfl (fun hb5 => ?_) (fun hb5 => ?_) <;> (have hp5 := hb5; try simp only [decide_eq_true_eq, decide_eq_false_iff_not, Int.not_lt] at hp5)
 refine c_assoc ?_
 refine c_reg fun K hK => ?_
 simp only [vm, vr, hb5]
 (refine hK _ ?_; clear hK K)
 refine c_ret ?_
 simp only [vm, vr, reduceIte, Nat.reduceEqDiff, reduceCtorEq]
 rotate_left
 refine c_skip ?_
 refine c_reg fun K hK => ?_
 simp only [vm, vr, hb5]
 (refine hK _ ?_; clear hK K)
 refine c_ret1 ?_
 simp only [vm, vr, reduceIte, Nat.reduceEqDiff, reduceCtorEq]
 rotate_left
 simp only [vm, hb1]
 (refine hK _ ?_; clear hK K)
 refine c_if _ rfl (fun hb6 => ?_) (fun hb6 => ?_) <;> (have hp6 := hb6; try simp only [] at hp6)
 cases hb6
 refine c_skip ?_
 refine c_assoc ?_
 refine c_reg fun K hK => ?_
 simp only [vm, vr, q101, reduceIte, Nat.reduceEqDiff, Nat.reduceAdd, Nat.reduceLeDiff, reduceCtorEq]
 refine guard_by (fun hb7 => ?_) (fun hb7 => ?_) <;> (have hp7 := hb7; try simp only [decide_eq_true_eq, decide_eq_false_iff_not, Int.not_lt] at hp7)
 simp only [vm, hb7]
 (refine hK _ ?_; clear hK K)
 refine c_if _ rfl (fun hb8 => ?_) (fun hb8 => ?_) <;> (have hp8 := hb8; try simp only [] at hp8)
 refine c_assoc ?_
 refine c_reg fun K hK => ?_
 simp only [vm, vr]
 (refine hK _ ?_; clear hK K)
 refine c_ret ?_
 simp only [vm, vr, reduceIte, Nat.reduceEqDiff, reduceCtorEq]
 rotate_left
 cases hb8
 simp only [vm, hb7]
 (refine hK _ ?_; clear hK K)
 refine c_if _ rfl (fun hb9 => ?_) (fun hb9 => ?_) <;> (have hp9 := hb9; try simp only [decide_eq_true_eq, decide_eq_false_iff_not, Int.not_lt] at hp9)
 refine c_assoc ?_
 refine c_reg fun K hK => ?_
 simp only [vm, vr, hb9]
 (refine hK _ ?_; clear hK K)
 refine c_ret ?_
 simp only [vm, vr, reduceIte, Nat.reduceEqDiff, reduceCtorEq]
 rotate_left
 refine c_skip ?_
 refine c_reg fun K hK => ?_
 simp only [vm, vr, hb9]
 (refine hK _ ?_; clear hK K)
 refine c_ret1 ?_
 simp only [vm, vr, reduceIte, Nat.reduceEqDiff, reduceCtorEq]
 rotate_left
 all_goals (unfold ansV; congr 2; split <;> (try split) <;> simp_all <;> omega)
theorem spec59 (t : CTab) (x : CStrip) (i s : Nat) (ht : TabOk t) (hx : StrOk x) (hi : i < x.ents.length) (hs : s < 16) : Sp0 59 [stpV t x, nn i, uu s] (R.v (nn (ansV (pasR t s (x.ents.getD i default)) (x.tars.getD i default)))) := by
 have hr := hx.ent i hi
 have hsm := hx.same
 have hs62 := spec62 t s (x.ents.getD i default) ht hs hr
 refine spec_of mixed (fun _ _ _ h => h) Tryz.func59 (by decide +kernel) rfl (rs := _) rfl (by rfl) rfl (by simp [Tryz.f59]) (by decide +kernel) ?_; simp only [argsG, Nat.zero_add, Nat.reduceAdd]
 refine c_reg fun K hK => ?_
 simp only [vm, vr, reduceIte, Nat.reduceAdd, reduceCtorEq]
 refine need_by (by first | assumption | omega | (simp; done) | (simp; omega)) ?_
 (refine hK _ ?_; clear hK K)
 refine c_draw fun K hK => ?_
 simp only [vm, vr, q59, reduceIte, Nat.reduceEqDiff, Nat.reduceAdd, Nat.reduceLeDiff, reduceCtorEq]
 (refine atI_map default (by first | assumption | omega | (simp; done) | (simp; omega)) (by first | assumption | omega | (simp; done) | (simp; omega)) ?_; simp only [vm, vr, q59, Nat.reduceAdd])
 (apply d_call (hs62); (case hf => rfl); (case hq => (simp only [vm, reduceIte, Nat.reduceEqDiff, reduceCtorEq]; rfl)); (case hvs => rfl))
 simp only [vm, vr, q59, reduceIte, Nat.reduceEqDiff, Nat.reduceAdd, Nat.reduceLeDiff, reduceCtorEq]
 (refine atI_map default (by first | assumption | omega | (simp; done) | (simp; omega)) (by first | assumption | omega | (simp; done) | (simp; omega)) ?_; simp only [vm, vr, q59, reduceIte, Nat.reduceEqDiff, Nat.reduceAdd, reduceCtorEq])
 refine need_by (by first | assumption | omega | (simp; done) | (simp; omega)) ?_
 refine need_by (by first | assumption | omega | (simp; done) | (simp; omega)) ?_
 (refine draw_ok (by decide +kernel) (hK _ ?_); clear hK; clear K)
 refine c_block ?_
 refine c_reg fun K hK => ?_
 simp only [vm, vr, q59, reduceIte, Nat.reduceEqDiff, Nat.reduceAdd, Nat.reduceLeDiff, reduceCtorEq]
 refine guard_by (fun hb1 => ?_) (fun hb1 => ?_) <;> (have hp1 := hb1; try simp only [decide_eq_true_eq, decide_eq_false_iff_not, Int.not_le] at hp1)
 simp only [vm, hb1]
 (refine hK _ ?_; clear hK K)
 refine vcode_if _ rfl (fun hb2 => ?_) (fun hb2 => ?_) <;> (have hp2 := hb2; try simp only [decide_eq_true_eq, decide_eq_false_iff_not, Int.not_le] at hp2)
 refine c_reg fun K hK => ?_
 simp only [vm, vr, hb2]
 (refine hK _ ?_; clear hK K)
 refine c_ret1 ?_
 simp only [thenV_r, blockV_r]
 simp only [vm, vr, reduceIte, Nat.reduceEqDiff, reduceCtorEq]
 rotate_left
 refine c_reg fun K hK => ?_
 simp only [vm, vr, q59, hb2, reduceIte, Nat.reduceEqDiff, Nat.reduceAdd, Nat.reduceLeDiff, reduceCtorEq]
 (apply s_call (spec87 _ _); (case hf => rfl); (case hq => (simp only [vm, reduceIte, Nat.reduceEqDiff, reduceCtorEq]; rfl)); (case hvs => rfl))
 simp only [vm, vr, reduceIte, Nat.reduceEqDiff, reduceCtorEq]
 (refine hK _ ?_; clear hK K)
 refine vcode_if _ rfl (fun hb3 => ?_) (fun hb3 => ?_) <;> (have hp3 := hb3; try simp only [decide_eq_true_eq, decide_eq_false_iff_not, Bool.and_eq_true, Bool.not_eq_true', Bool.not_eq_false', Bool.and_eq_false_iff, Int.not_le] at hp3)
 refine c_reg fun K hK => ?_
 simp only [vm, vr, hb3]
 (refine hK _ ?_; clear hK K)
 refine c_ret1 ?_
 simp only [thenV_r, blockV_r]
 simp only [vm, vr, reduceIte, Nat.reduceEqDiff, reduceCtorEq]
 rotate_left
 refine c_skip1 ?_
 simp only [thenV_n, blockV_n]
 refine c_reg fun K hK => ?_
 simp only [vm, vr, hb3]
 (refine hK _ ?_; clear hK K)
 refine c_ret1 ?_
 simp only [vm, vr, reduceIte, Nat.reduceEqDiff, reduceCtorEq]
 rotate_left
 simp only [vm, hb1]
 (refine hK _ ?_; clear hK K)
 refine vcode_if _ rfl (fun hb4 => ?_) (fun hb4 => ?_) <;> (have hp4 := hb4; try simp only [] at hp4)
 cases hb4
 refine c_reg fun K hK => ?_
 simp only [vm, vr, q59, reduceIte, Nat.reduceEqDiff, Nat.reduceAdd, Nat.reduceLeDiff, reduceCtorEq]
 (apply s_call (spec87 _ _); (case hf => rfl); (case hq => (simp only [vm, reduceIte, Nat.reduceEqDiff, reduceCtorEq]; rfl)); (case hvs => rfl))
 simp only [vm, vr, reduceIte, Nat.reduceEqDiff, reduceCtorEq]
 (refine hK _ ?_; clear hK K)
 refine vcode_if _ rfl (fun hb5 => ?_) (fun hb5 => ?_) <;> (have hp5 := hb5; try simp only [decide_eq_true_eq, decide_eq_false_iff_not, Bool.and_eq_true, Bool.not_eq_true', Bool.not_eq_false', Bool.and_eq_false_iff, Int.not_le] at hp5)
 refine c_reg fun K hK => ?_
 simp only [vm, vr, hb5]
 (refine hK _ ?_; clear hK K)
 refine c_ret1 ?_
 simp only [thenV_r, blockV_r]
 simp only [vm, vr, reduceIte, Nat.reduceEqDiff, reduceCtorEq]
 rotate_left
 refine c_skip1 ?_
 simp only [thenV_n, blockV_n]
 refine c_reg fun K hK => ?_
 simp only [vm, vr, hb5]
 (refine hK _ ?_; clear hK K)
 refine c_ret1 ?_
 simp only [vm, vr, reduceIte, Nat.reduceEqDiff, reduceCtorEq]
 rotate_left
 all_goals (generalize pasR t s (x.ents.getD i default) = X at *; generalize x.tars.getD i default = Y at *; unfold ansV; congr 2; split <;> (try split) <;> simp_all <;> omega)
end Go.Vm
