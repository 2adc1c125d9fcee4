import Derived.Test.YtfmkfaohhpmpaaaGreatDoorVmBC
import Derived.Test.YtfmkfaohhpmpaaaGreatDoorWcD
import Derived.Test.YtfmkfaohhpmpaaaGreatDoorWcH
set_option linter.all false
namespace Go.Vm
open Go.Proofs
set_option maxRecDepth 20000
set_option maxHeartbeats 8000000
--DEF TAB = nn t.water; nn t.air; V.sl (t.banks.map bnkV)
--DEF Q = q24
/-- The commands of a bank out of the first sets. -/
def plN (t : CTab) (l : List Int) (b : Nat) : Nat → List (Int × Int)
 | 0 => []
 | n + 1 => if hasB (l.getD n 0).toNat b = true then cmdL (plN t l b n) ((n : Int) + b - (t.banks.getD b default).del) else plN t l b n
theorem cmdL_mem {l : List (Int × Int)} {tick : Int} {p : Int × Int} (h : p ∈ cmdL l tick) : p ∈ l ∨ p.2 = tick := by
 unfold cmdL at h
 split at h
 ·
  rcases List.mem_or_eq_of_mem_set h with h | h
  ·
   exact .inl h
  ·
   exact .inr (by rw [h])
 ·
  rcases List.mem_append.1 h with h | h
  ·
   exact .inl h
  ·
   exact .inr (by rw [List.mem_singleton.1 h])
theorem cmdL_len {l : List (Int × Int)} {tick : Int} : (cmdL l tick).length ≤ l.length + 1 := by
 unfold cmdL; split <;> simp
theorem plN_len {t : CTab} {l : List Int} {b : Nat} : ∀ {n : Nat}, (plN t l b n).length ≤ n
 | 0 => by simp [plN]
 | n + 1 => by
  have := plN_len (t := t) (l := l) (b := b) (n := n)
  simp only [plN]
  split
  ·
   have := cmdL_len (l := plN t l b n) (tick := (n : Int) + b - (t.banks.getD b default).del); omega
  ·
   omega
theorem plN_mem {t : CTab} {l : List Int} {b : Nat} (ht : TabOk t) (hb : b < t.banks.length) : ∀ {n : Nat}, n ≤ 1000 → ∀ p ∈ plN t l b n, -1000000 ≤ p.2 ∧ p.2 ≤ 1000000
 | 0, _, p, h => by simp [plN] at h
 | n + 1, hn, p, h => by
  have ih := plN_mem (l := l) ht hb (n := n) (by omega)
  have hk := ht.bank b hb
  have h4 := ht.len
  simp only [plN] at h
  split at h
  ·
   rcases cmdL_mem h with h | h
   ·
    exact ih p h
   ·
    omega
  ·
   exact ih p h
def cntN (l : List Int) (b : Nat) : Nat → Nat
 | 0 => 0
 | n + 1 => if hasB (l.getD n 0).toNat b = true then cntN l b n + 1 else cntN l b n
def rowsP (t : CTab) (l : List Int) (b : Nat) : List Row := (List.range t.banks.length).map fun k => if k < b then ⟨false, 2 * cntN l k l.length, (plN t l k l.length).map p2⟩ else row0
theorem rowsP_len {t : CTab} {l : List Int} {b : Nat} : (rowsP t l b).length = t.banks.length := by simp [rowsP]
theorem rowsP_at {t : CTab} {l : List Int} {b k : Nat} (hk : k < t.banks.length) : rowAt (rowsP t l b) k = if k < b then ⟨false, 2 * cntN l k l.length, (plN t l k l.length).map p2⟩ else row0 := by
 unfold rowAt rowsP
 rw [List.getD_eq_getElem?_getD, List.getElem?_map, List.getElem?_range hk]
 rfl
theorem rows_extC {a b : List Row} (hl : a.length = b.length) (h : ∀ k, k < a.length → rowAt a k = rowAt b k) : a = b := by
 refine List.ext_getElem hl fun k h1 h2 => ?_
 have := h k h1
 unfold rowAt at this
 simpa [List.getD_eq_getElem?_getD, List.getElem?_eq_getElem h1, List.getElem?_eq_getElem h2] using this
theorem rowsP_0 {t : CTab} {l : List Int} : rowsP t l 0 = List.replicate t.banks.length row0 := by
 refine rows_extC (by simp [rowsP_len]) fun k hk => ?_
 rw [rowsP_len] at hk
 rw [rowsP_at hk, rowAt_rep, if_neg (by omega)]
theorem rowsP_same {t : CTab} {l : List Int} {b : Nat} (hb : b < t.banks.length) : (rowsP t l b).set b ⟨false, 2 * cntN l b 0, (plN t l b 0).map p2⟩ = rowsP t l b := by
 refine rows_extC (by simp) fun k hk => ?_
 rw [List.length_set, rowsP_len] at hk
 rw [rowAt_set (by rw [rowsP_len]; omega)]
 by_cases e : b = k
 ·
  rw [if_pos e, rowsP_at hk, if_neg (by omega)]; rfl
 ·
  rw [if_neg e]
theorem rowsP_succ {t : CTab} {l : List Int} {b : Nat} (hb : b < t.banks.length) : (rowsP t l b).set b ⟨false, 2 * cntN l b l.length, (plN t l b l.length).map p2⟩ = rowsP t l (b + 1) := by
 refine rows_extC (by simp [rowsP_len]) fun k hk => ?_
 rw [List.length_set, rowsP_len] at hk
 rw [rowAt_set (by rw [rowsP_len]; omega), rowsP_at (b := b + 1) hk]
 by_cases e : b = k
 ·
  subst e; rw [if_pos rfl, if_pos (by omega)]
 ·
  rw [if_neg e, rowsP_at hk]
  by_cases c : k < b
  ·
   rw [if_pos c, if_pos (by omega)]
  ·
   rw [if_neg c, if_neg (by omega)]
theorem rowsP_end {t : CTab} {l : List Int} : List.map rowV (rowsP t l t.banks.length) = (List.range t.banks.length).map fun b => V.sl ((plN t l b l.length).map p2) := by
 unfold rowsP
 rw [List.map_map]
 refine List.map_congr_left fun k hk => ?_
 simp only [Function.comp_apply]
 rw [if_pos (List.mem_range.1 hk)]; rfl
theorem spec66 (t : CTab) (n b : Nat) (ht : TabOk t) (hb : b < t.banks.length) (hn : n < 1000) : Sp0 66 [ctV t, nn n, nn b] (R.v (nn ((n : Int) + b - (t.banks.getD b default).del))) := by
 have h := ht.bank b hb
 have h4 := ht.len
 refine spec_of mixed (fun _ _ _ h => h) Tryz.func66 (by decide +kernel) rfl (rs := _) rfl (by rfl) rfl (by simp [Tryz.f66]) (by decide +kernel) ?_; simp only [argsG, Nat.zero_add, Nat.reduceAdd]
 refine c_reg fun K hK => ?_
 simp only [vm, vr, reduceIte, Nat.reduceAdd, reduceCtorEq]
 refine need_by (by first | assumption | omega | (simp; done) | (simp; omega)) ?_
 (refine hK _ ?_; clear hK K)
 refine c_reg fun K hK => ?_
 simp only [vm, vr, q66, reduceIte, Nat.reduceEqDiff, Nat.reduceAdd, Nat.reduceLeDiff, reduceCtorEq]
 simp (disch := omega) only [wr64]
 (refine atI_map default (by first | assumption | omega | (simp; done) | (simp; omega)) (by first | assumption | omega | (simp; done) | (simp; omega)) ?_; simp only [vm, vr, q66, Nat.reduceAdd])
 (simp (disch := omega) only [wr64]; try simp only [vm, vr, vt, vp, q66, mapbnk, hb, Int.reduceBNe, Int.reduceBEq, Int.reduceLT, Int.reduceLE, Int.reduceGT, Int.reduceGE, decide_true, decide_false, bne_self_eq_false, beq_self_eq_true, reduceIte, Nat.reduceEqDiff, Nat.reduceAdd, Nat.reduceLeDiff, Nat.reduceMul, Nat.reduceLT, reduceCtorEq])
 (refine hK _ ?_; clear hK K)
 refine c_ret1 ?_
 simp only [vm, vr, reduceIte, Nat.reduceEqDiff, reduceCtorEq]
theorem plan_of (t : CTab) (l : List Int) (h0 : (tabE t).2 = 0) (hll : l.length ≤ 12) (hs56 : Sp0 56 [nn l.length] (R.v (nn 0))) (hs57 : Sp0 57 [ctV t, .sl (l.map nn)] (R.v (nn 0))) (hset : ∀ i, i < l.length → ∃ s : Nat, l.getD i 0 = (s : Int) ∧ s < 16) : Sp0 24 [ctV t, .sl (l.map nn)] (R.v2 (.agg [.sl ((List.range t.banks.length).map fun b => V.sl ((plN t l b l.length).map p2))]) (nn 0)) := by
 have ht := tab_ok h0
 have h4 := ht.len
 have kf : firstV [0, 0] = 0 := rfl
 refine spec_of mixed (fun _ _ _ h => h) Tryz.func24 (by decide +kernel) rfl (rs := _) rfl (by rfl) rfl (by simp [Tryz.f24]) (by decide +kernel) ?_; simp only [argsG, Nat.zero_add]
 refine c_reg fun K hK => ?_
 simp only [vm, vr, q24, reduceIte, Nat.reduceEqDiff, Nat.reduceAdd, reduceCtorEq]
 refine need_by (by first | assumption | omega | (simp; done) | (simp; omega)) ?_
 refine need_by (by first | assumption | omega | (simp; done) | (simp; omega)) ?_
 (refine hK _ ?_; clear hK K)
 refine c_reg fun K hK => ?_
 simp only [vm, vr, q24, reduceIte, Nat.reduceEqDiff, Nat.reduceAdd, Nat.reduceLeDiff, reduceCtorEq]
 (apply s_call (spec55 _ ?s9801x1); (case hf => rfl); (case hq => (simp only [vm, reduceIte, Nat.reduceEqDiff, reduceCtorEq]; rfl)); (case hvs => rfl); (case s9801x1 => first | assumption | omega | (simp; done) | (simp; omega)))
 simp only [vm, vr, q24, h0, reduceIte, Nat.reduceEqDiff, reduceCtorEq]
 (apply s_call (hs56); (case hf => rfl); (case hq => (simp only [vm, reduceIte, Nat.reduceEqDiff, reduceCtorEq]; rfl)); (case hvs => rfl))
 simp only [vm, vr, q24, reduceIte, Nat.reduceEqDiff, Nat.reduceAdd, Nat.reduceLeDiff, Nat.reduceMul, reduceCtorEq]
 refine need_by (by first | assumption | omega | (simp; done) | (simp; omega)) ?_
 (apply s_call (spec37w2 _ _); (case hf => rfl); (case hq => (simp only [vm, reduceIte, Nat.reduceEqDiff, reduceCtorEq]; rfl)); (case hvs => rfl))
 simp only [vm, vr, kf, reduceIte, Nat.reduceEqDiff, reduceCtorEq]
 (refine hK _ ?_; clear hK K)
 refine c_assoc ?_
 refine c_reg fun K hK => ?_
 simp only [vm, vr, beq_self_eq_true, reduceIte, Nat.reduceEqDiff, reduceCtorEq]
 (refine hK _ ?_; clear hK K)
 refine c_if _ rfl (fun hb1 => ?_) (fun hb1 => ?_) <;> (have hp1 := hb1; try simp only [] at hp1)
 refine c_reg fun K hK => ?_
 simp only [vm, vr, q24, reduceIte, Nat.reduceEqDiff, Nat.reduceAdd, Nat.reduceLeDiff, reduceCtorEq]
 (apply s_call (hs57); (case hf => rfl); (case hq => (simp only [vm, reduceIte, Nat.reduceEqDiff, reduceCtorEq]; rfl)); (case hvs => rfl))
 simp only [vm, vr, reduceIte, Nat.reduceEqDiff, reduceCtorEq]
 (refine hK _ ?_; clear hK K)
 refine c_assoc ?_
 refine c_reg fun K hK => ?_
 simp only [vm, vr, bne_self_eq_false, reduceIte, Nat.reduceEqDiff, reduceCtorEq]
 (refine hK _ ?_; clear hK K)
 refine c_if _ rfl (fun hb2 => ?_) (fun hb2 => ?_) <;> (have hp2 := hb2; try simp only [] at hp2)
 cases hb2
 refine c_skip ?_
 refine c_reg fun K hK => ?_
 simp only [vm, vr, vt, vp, q24, vt, vt2, reduceIte, Nat.reduceEqDiff, Nat.reduceAdd, Nat.reduceLeDiff, Nat.reduceLT, reduceCtorEq]
 refine need_by2 ?_ ?_
 refine need_by (by first | assumption | omega | (simp; done) | (simp; omega)) ?_
 (refine hK _ ?_; clear hK K)
 refine c_assoc ?_
 refine c_reg fun K hK => ?_
 simp only [vm, vr, vt, q24, vt, reduceIte, Nat.reduceEqDiff, Nat.reduceAdd, Nat.reduceLeDiff, reduceCtorEq]
 (refine hK _ ?_; clear hK K)
 refine c_block ?_
 rotate_left
 rotate_left
 cases hb1
 ·
  refine vcode_loop (fun b : Nat => [(1, L.p (V.sl (List.map nn l))), (2, L.own 2 0), (4, L.own 4 0), (5, L.p (nn 0)), (7, L.own 7 0), (35, L.p (nn t.banks.length)), (36, L.p (nn b))]) (fun b => tabL 31 59 2 (rowsP t l b) [(Key.b 7, M.box 1), (Key.c 7 0, M.cell (L.bsl 31)), (Key.b 4, M.box 1), (Key.c 4 0, M.cell (L.nilS)), (Key.b 2, M.box 3), (Key.c 2 0, M.cell (L.p (nn t.water))), (Key.c 2 1, M.cell (L.p (nn t.air))), (Key.c 2 2, M.cell (L.p (V.sl (t.banks.map bnkV))))]) (fun b => b ≤ t.banks.length) (fun b => t.banks.length - b) 0 (Nat.zero_le _) ?_ ?_
  ·
   rw [rowsP_0]
   (simp only [vm, vt, vt, vmk, reduceIte, Nat.reduceEqDiff, Nat.reduceAdd, Nat.reduceLT, reduceCtorEq]; try simp (disch := omega) only [wr64]; try omega)
   exact ⟨_, rfl⟩
  ·
   intro b hb
   have hrl := rowsP_len (t := t) (l := l) (b := b)
   rcases Nat.lt_or_ge b t.banks.length with hbl | hbl
   ·
    have kb : decide ((b : Int) < (t.banks.length : Int)) = true := decide_eq_true (by omega)
    refine c_reg fun K hK => ?_
    simp only [vm, vr, kb, reduceIte, Nat.reduceEqDiff]
    (refine hK _ ?_; clear hK K)
    refine c_if _ rfl (fun hb3 => ?_) (fun hb3 => ?_) <;> (have hp3 := hb3; try simp only [] at hp3)
    refine c_skip ?_
    refine c_block ?_
    refine c_reg fun K hK => ?_
    simp only [vm, vr, reduceIte, Nat.reduceEqDiff]
    (refine hK _ ?_; clear hK K)
    refine c_reg fun K hK => ?_
    simp only [vm, vr, q24, reduceIte, Nat.reduceEqDiff]
    (refine hK _ ?_; clear hK K)
    refine c_block1 ?_
    rotate_left
    cases hb3
    refine vcode_loop (fun n : Nat => [(1, L.p (V.sl (List.map nn l))), (2, L.own 2 0), (4, L.own 4 0), (5, L.p (nn 0)), (7, L.own 7 0), (8, L.p (nn b)), (35, L.p (nn t.banks.length)), (36, L.p (nn b)), (39, L.p (V.sl (List.map nn l))), (40, L.p (nn l.length)), (41, L.p (nn n))]) (fun n => tabL 31 59 2 ((rowsP t l b).set b ⟨false, 2 * cntN l b n, (plN t l b n).map p2⟩) [(Key.b 7, M.box 1), (Key.c 7 0, M.cell (L.bsl 31)), (Key.b 4, M.box 1), (Key.c 4 0, M.cell (L.nilS)), (Key.b 2, M.box 3), (Key.c 2 0, M.cell (L.p (nn t.water))), (Key.c 2 1, M.cell (L.p (nn t.air))), (Key.c 2 2, M.cell (L.p (V.sl (t.banks.map bnkV))))]) (fun n => n ≤ l.length) (fun n => l.length - n) 0 (Nat.zero_le _) ?_ ?_
    ·
     rw [rowsP_same hbl]
     (simp only [vm, vt, vt, vmk, reduceIte, Nat.reduceEqDiff, Nat.reduceAdd, Nat.reduceLT, reduceCtorEq]; try simp (disch := omega) only [wr64]; try omega)
     exact ⟨_, rfl⟩
    ·
     intro n hn
     have hsl : ((rowsP t l b).set b ⟨false, 2 * cntN l b n, (plN t l b n).map p2⟩).length = t.banks.length := by rw [List.length_set, rowsP_len]
     have hrow : rowAt ((rowsP t l b).set b ⟨false, 2 * cntN l b n, (plN t l b n).map p2⟩) b = ⟨false, 2 * cntN l b n, (plN t l b n).map p2⟩ := by rw [rowAt_set (by omega), if_pos rfl]
     rcases Nat.lt_or_ge n l.length with hnl | hnl
     ·
      have kn : decide ((n : Int) < (l.length : Int)) = true := decide_eq_true (by omega)
      obtain ⟨s, es, s16⟩ := hset n hnl
      have wS : IntKind.wrap .u64 (s : Int) = (s : Int) := wrU (by omega) (by omega)
      have hs64 := spec64 s b s16 (by omega)
      have hs66 := spec66 t n b ht hbl (by omega)
      have hpl := plN_len (t := t) (l := l) (b := b) (n := n)
      have hs65 := spec65 (plN t l b n) ((n : Int) + b - (t.banks.getD b default).del) (by omega) (fun i hi => plN_mem ht hbl (by omega) _ (getD_memC hi))
      cases c : hasB s b with
      | false =>
       rw [c] at hs64
       have ep : plN t l b (n + 1) = plN t l b n := by simp only [plN]; rw [es, Int.toNat_natCast, c]; rfl
       have ec : cntN l b (n + 1) = cntN l b n := by simp only [cntN]; rw [es, Int.toNat_natCast, c]; rfl
       refine c_reg fun K hK => ?_
       simp only [vm, vr, kn, reduceIte, Nat.reduceEqDiff]
       (refine hK _ ?_; clear hK K)
       refine c_if _ rfl (fun hb4 => ?_) (fun hb4 => ?_) <;> (have hp4 := hb4; try simp only [] at hp4)
       refine c_skip ?_
       refine c_block ?_
       refine c_reg fun K hK => ?_
       simp only [vm, vr, q24, reduceIte, Nat.reduceEqDiff]
       (refine atI_map 0 (by first | assumption | omega | (simp; done) | (simp; omega)) (by first | assumption | omega | (simp; done) | (simp; omega)) ?_; simp only [vm, vr, q24, es])
       (refine hK _ ?_; clear hK K)
       refine c_reg fun K hK => ?_
       simp only [vm, vr, wS, cvis, reduceIte, Nat.reduceEqDiff]
       (apply s_call (hs64); (case hf => rfl); (case hq => (simp only [vm, reduceIte, Nat.reduceEqDiff]; rfl)); (case hvs => rfl))
       simp only [vm, vr]
       (refine hK _ ?_; clear hK K)
       refine vcode_if _ rfl (fun hb5 => ?_) (fun hb5 => ?_) <;> (have hp5 := hb5; try simp only [] at hp5)
       cases hb5
       refine c_skip1 ?_
       simp only [thenV_n, blockV_n]
       refine c_reg1 fun K hK => ?_
       simp only [vm, vr, reduceIte, Nat.reduceEqDiff]
       (simp (disch := omega) only [wr64]; try simp only [vm, vr, vt, vp, q24, vt, vt2, vt3, mapbnk, kn, es, wS, cvis, hrow, hb1, hb2, hb, hbl, hb3, hb4, hb5, Int.reduceBNe, Int.reduceBEq, Int.reduceLT, Int.reduceLE, Int.reduceGT, Int.reduceGE, decide_true, decide_false, bne_self_eq_false, beq_self_eq_true, reduceIte, Nat.reduceEqDiff, Nat.reduceAdd, Nat.reduceLeDiff, Nat.reduceMul, Nat.reduceLT, reduceCtorEq])
       (refine hK _ ?_; clear hK K)
       simp only [thenV_n]
       rotate_left
       cases hb4
       refine ⟨n + 1, ?_, by omega, by omega⟩
       rw [ep, ec]
       ((show Wk _ _ _; simp only [vm, vt, vt, vmk, reduceIte, Nat.reduceEqDiff, Nat.reduceAdd, Nat.reduceLT, reduceCtorEq]; (try simp (disch := omega) only [wr64]); try omega))
       all_goals exact ⟨by omega, _, rfl⟩
      | true =>
       rw [c] at hs64
       have ep : plN t l b (n + 1) = cmdL (plN t l b n) ((n : Int) + b - (t.banks.getD b default).del) := by simp only [plN]; rw [es, Int.toNat_natCast, c]; rfl
       have ec : 2 * cntN l b (n + 1) = 2 * cntN l b n + 1 + 1 := by simp only [cntN]; rw [es, Int.toNat_natCast, c, if_pos rfl]; omega
       refine c_reg fun K hK => ?_
       simp only [vm, vr, kn, reduceIte, Nat.reduceEqDiff]
       (refine hK _ ?_; clear hK K)
       refine c_if _ rfl (fun hb4 => ?_) (fun hb4 => ?_) <;> (have hp4 := hb4; try simp only [] at hp4)
       refine c_skip ?_
       refine c_block ?_
       refine c_reg fun K hK => ?_
       simp only [vm, vr, q24, reduceIte, Nat.reduceEqDiff]
       (refine atI_map 0 (by first | assumption | omega | (simp; done) | (simp; omega)) (by first | assumption | omega | (simp; done) | (simp; omega)) ?_; simp only [vm, vr, q24, es])
       (refine hK _ ?_; clear hK K)
       refine c_reg fun K hK => ?_
       simp only [vm, vr, wS, cvis, reduceIte, Nat.reduceEqDiff]
       (apply s_call (hs64); (case hf => rfl); (case hq => (simp only [vm, reduceIte, Nat.reduceEqDiff]; rfl)); (case hvs => rfl))
       simp only [vm, vr]
       (refine hK _ ?_; clear hK K)
       refine vcode_if _ rfl (fun hb5 => ?_) (fun hb5 => ?_) <;> (have hp5 := hb5; try simp only [] at hp5)
       refine c_draw1 fun K hK => ?_
       simp only [vm, vr, vt, q24, vt, hrow, reduceIte, Nat.reduceEqDiff, Nat.reduceAdd, Nat.reduceLeDiff, reduceCtorEq]
       refine need_by (by first | assumption | omega | (simp; done) | (simp; omega)) ?_
       refine needR_by (by first | assumption | omega | (simp; done) | (simp; omega)) fun hb6 => ?_
       (apply d_call (hs66); (case hf => rfl); (case hq => (simp only [vm, reduceIte, Nat.reduceEqDiff]; rfl)); (case hvs => rfl))
       (apply d_callo (hs65); (case hf => rfl); (case ha => (simp only [vm, vr, reduceIte, Nat.reduceEqDiff]; rfl)); (case hc => (first | rfl | (simp only [vm, vr, vt, vt, hrow, hb6, reduceIte]; rfl))); (case hq => (simp only [vm, vr]; rfl)); (case hn => (first | rfl | (simp only [vm, vr, vt, vt, hrow, hb6, reduceIte, reduceCtorEq]; done) | (simp only [vm, vr, vt, vp, q24, vt, vt2, vt3, mapbnk, mapp2, kn, es, wS, cvis, hrow, List.set_set, hb1, hb2, hb, hbl, hb3, hb4, hb5, hb6, Int.reduceBNe, Int.reduceBEq, Int.reduceLT, Int.reduceLE, Int.reduceGT, Int.reduceGE, decide_true, decide_false, bne_self_eq_false, beq_self_eq_true, reduceIte, Nat.reduceEqDiff, Nat.reduceAdd, Nat.reduceLeDiff, Nat.reduceMul, Nat.reduceLT, reduceCtorEq]; rfl))); (case hz => (simp; done)); (case ho => rfl); (case hvs => rfl); (case hL => (simp only [vm, R.toL, R1.toL, RC.toL, siteN, reduceIte, Nat.reduceAdd, Nat.reduceMul]; rfl)); (case hfr => (simp only [vm, vr, vt, vt, reduceIte, Nat.reduceEqDiff, Nat.reduceLT, reduceCtorEq]; try rfl)))
       simp only [vm, vr, vt, q24, vt, vt2, vt3, hrow, List.set_set, hb6, reduceIte, Nat.reduceEqDiff, Nat.reduceLT, reduceCtorEq]
       refine need_by (by first | assumption | omega | (simp; done) | (simp; omega)) ?_
       refine needR_by (by first | assumption | omega | (simp; done) | (simp; omega)) fun hb7 => ?_
       (refine draw_ok (by kernel_rfl) (hK _ ?_); clear hK; clear K)
       simp only [thenV_n, blockV_n]
       refine c_reg1 fun K hK => ?_
       simp only [vm, vr, reduceIte, Nat.reduceEqDiff]
       (simp (disch := omega) only [wr64]; try simp only [vm, vr, vt, vp, q24, vt, vt2, vt3, mapbnk, mapp2, kn, es, wS, cvis, hrow, List.set_set, hb1, hb2, hb, hbl, hb3, hb4, hb5, hb6, hb7, Int.reduceBNe, Int.reduceBEq, Int.reduceLT, Int.reduceLE, Int.reduceGT, Int.reduceGE, decide_true, decide_false, bne_self_eq_false, beq_self_eq_true, reduceIte, Nat.reduceEqDiff, Nat.reduceAdd, Nat.reduceLeDiff, Nat.reduceMul, Nat.reduceLT, reduceCtorEq])
       (refine hK _ ?_; clear hK K)
       simp only [thenV_n]
       rotate_left
       cases hb5
       cases hb4
       refine ⟨n + 1, ?_, by omega, by omega⟩
       rw [ep, ec]
       ((show Wk _ _ _; simp only [vm, vt, vt, vmk, reduceIte, Nat.reduceEqDiff, Nat.reduceAdd, Nat.reduceLT, reduceCtorEq]; (try simp (disch := omega) only [wr64]); try omega))
       all_goals exact ⟨by omega, _, rfl⟩
     ·
      have kn : decide ((n : Int) < (l.length : Int)) = false := decide_eq_false (by omega)
      obtain rfl : n = l.length := by omega
      rw [rowsP_succ hbl]
      refine c_reg fun K hK => ?_
      simp only [vm, vr, kn, reduceIte, Nat.reduceEqDiff]
      (refine hK _ ?_; clear hK K)
      refine c_if _ rfl (fun hb4 => ?_) (fun hb4 => ?_) <;> (have hp4 := hb4; try simp only [] at hp4)
      cases hb4
      refine c_exit ?_
      simp only [thenV_n, thenV_e, blockV_n, blockV_e, reduceIte, Nat.reduceEqDiff]
      refine c_reg1 fun K hK => ?_
      simp only [vm, vr, reduceIte, Nat.reduceEqDiff]
      (simp (disch := omega) only [wr64]; try simp only [vm, vr, vt, vp, q24, vt, vt2, mapbnk, kn, hb1, hb2, hb, hbl, hb3, hb4, Int.reduceBNe, Int.reduceBEq, Int.reduceLT, Int.reduceLE, Int.reduceGT, Int.reduceGE, decide_true, decide_false, bne_self_eq_false, beq_self_eq_true, reduceIte, Nat.reduceEqDiff, Nat.reduceAdd, Nat.reduceLeDiff, Nat.reduceMul, Nat.reduceLT, reduceCtorEq])
      (refine hK _ ?_; clear hK K)
      simp only [thenV_n]
      refine ⟨b + 1, ?_, by omega, by omega⟩
      ((show Wk _ _ _; simp only [vm, vt, vt, vmk, reduceIte, Nat.reduceEqDiff, Nat.reduceAdd, Nat.reduceLT, reduceCtorEq]; (try simp (disch := omega) only [wr64]); try omega))
      all_goals exact ⟨by omega, _, rfl⟩
   ·
    have kb : decide ((b : Int) < (t.banks.length : Int)) = false := decide_eq_false (by omega)
    obtain rfl : b = t.banks.length := by omega
    refine c_reg fun K hK => ?_
    simp only [vm, vr, kb, reduceIte, Nat.reduceEqDiff]
    (refine hK _ ?_; clear hK K)
    refine c_if _ rfl (fun hb3 => ?_) (fun hb3 => ?_) <;> (have hp3 := hb3; try simp only [] at hp3)
    cases hb3
    refine c_exit ?_
    simp only [thenV_n, thenV_e, blockV_e, reduceIte]
    refine c_reg fun K hK => ?_
    simp only [vm, vr, vt, q24, vt, reduceIte, Nat.reduceEqDiff, Nat.reduceLeDiff, Nat.reduceLT, reduceCtorEq]
    (refine hK _ ?_; clear hK K)
    refine c_ret1 ?_
    simp only [vm, vr, vt, q24, vt, reduceIte, Nat.reduceEqDiff, Nat.reduceLeDiff, reduceCtorEq]
    rw [rowsP_end]
 ·
  exact ⟨by omega, by omega, freshR_all fun k => by simp [fresh, of_mem, look, rs_lit, isNone]⟩
end Go.Vm
