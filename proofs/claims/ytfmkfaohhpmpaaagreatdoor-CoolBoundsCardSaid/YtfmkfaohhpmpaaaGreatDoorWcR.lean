import Derived.Test.YtfmkfaohhpmpaaaGreatDoorVmBC
import Derived.Test.YtfmkfaohhpmpaaaGreatDoorWcE
import Derived.Test.YtfmkfaohhpmpaaaGreatDoorWcPe
set_option linter.all false
namespace Go.Vm
open Go.Proofs
set_option maxRecDepth 20000
set_option maxHeartbeats 8000000
--DEF STP = nn t.water; nn t.air; V.sl (t.banks.map bnkV); V.sl (x.ents.map p2); V.sl (x.tars.map p2)
--DEF STC = nn t.water, nn t.air, .sl (t.banks.map bnkV), .sl (x.ents.map p2), .sl (x.tars.map p2)
/-! the sets that are available, those that reach a segment -/
def ansA (t : CTab) (x : CStrip) (i s : Nat) : Int := ansV (pasR t s (x.ents.getD i default)) (x.tars.getD i default)
abbrev cntA (t : CTab) : Nat := 2 ^ t.banks.length
theorem cntA_le {t : CTab} (h : t.banks.length ≤ 4) : cntA t ≤ 16 := Nat.pow_le_pow_right (by omega) h
def preL (t : CTab) (i n : Nat) : List Nat := (List.range n).filter fun s => subB s (avV t i)
abbrev setL (t : CTab) (i : Nat) : List Nat := preL t i (cntA t)
theorem preL_yes {t : CTab} {i n : Nat} (h : subB n (avV t i) = true) : preL t i (n + 1) = preL t i n ++ [n] := by
 simp [preL, List.range_succ, List.filter_append, h]
theorem preL_no {t : CTab} {i n : Nat} (h : subB n (avV t i) = false) : preL t i (n + 1) = preL t i n := by
 simp [preL, List.range_succ, List.filter_append, h]
theorem preL_lt {t : CTab} {i n s : Nat} (h : s ∈ preL t i n) : s < n ∧ subB s (avV t i) = true := by
 simpa [preL] using h
def setY (t : CTab) (i : Nat) : List (List V) := (setL t i).map fun (s : Nat) => [uu (s : Int)]
theorem setY_at {t : CTab} {i n : Nat} (hn : n < cntA t) (h : subB n (avV t i) = true) : (setY t i)[(preL t i n).length]? = some [uu n] := by
 unfold setY
 rw [List.getElem?_map]
 have e : setL t i = preL t i n ++ n :: ((List.range (cntA t)).drop (n + 1)).filter fun s => subB s (avV t i) := by
  unfold setL preL
  have k : List.range (cntA t) = List.range n ++ n :: (List.range (cntA t)).drop (n + 1) := by
   conv => lhs; rw [← List.take_append_drop n (List.range (cntA t))]
   rw [List.take_range, Nat.min_eq_left (by omega), List.drop_eq_getElem_cons (by simpa using hn)]
   simp
  conv => lhs; rw [k]
  rw [List.filter_append, List.filter_cons, if_pos h]
 rw [e, List.getElem?_append_right (Nat.le_refl _)]
 simp
theorem setY_get {t : CTab} {i k : Nat} {vs : List V} (h : (setY t i)[k]? = some vs) : ∃ s : Nat, (setL t i)[k]? = some s ∧ s < cntA t ∧ subB s (avV t i) = true ∧ vs = [uu s] := by
 unfold setY at h
 rw [List.getElem?_map] at h
 obtain ⟨s, hs, rfl⟩ := Option.map_eq_some_iff.1 h
 obtain ⟨h1, h2⟩ := preL_lt (List.mem_of_getElem? hs)
 exact ⟨s, hs, h1, h2, rfl⟩
theorem setY_all {t : CTab} {i : Nat} : (preL t i (2 ^ t.banks.length)).length = (setY t i).length := by simp [setY]
theorem setY_len {t : CTab} {i : Nat} : (setY t i).length = (setL t i).length := by simp [setY]
def rchN (t : CTab) (x : CStrip) (i n : Nat) : List Nat := ((setL t i).take n).filter fun s => ansA t x i s == 2
def rchS (t : CTab) (x : CStrip) (i : Nat) : List Nat := (setL t i).filter fun s => ansA t x i s == 2
def pmtS (t : CTab) (x : CStrip) (i : Nat) : List Nat := if (rchS t x i).length > 0 then rchS t x i else setL t i
abbrev natL (l : List Nat) : List Int := l.map fun (s : Nat) => (s : Int)
theorem rchN_yes {t : CTab} {x : CStrip} {i n s : Nat} (h : (setL t i)[n]? = some s) (c : (ansA t x i s == 2) = true) : rchN t x i (n + 1) = rchN t x i n ++ [s] := by
 unfold rchN; rw [List.take_add_one, h]; simp [List.filter_append, c]
theorem rchN_no {t : CTab} {x : CStrip} {i n s : Nat} (h : (setL t i)[n]? = some s) (c : (ansA t x i s == 2) = false) : rchN t x i (n + 1) = rchN t x i n := by
 unfold rchN; rw [List.take_add_one, h]; simp [List.filter_append, c]
theorem rchN_all {t : CTab} {x : CStrip} {i : Nat} : rchN t x i (setL t i).length = rchS t x i := by unfold rchN rchS; rw [List.take_length]
theorem take_at {l : List Nat} {n s : Nat} (h : l[n]? = some s) : l.take (n + 1) = l.take n ++ [s] := by rw [List.take_add_one, h]; rfl
theorem vload_ref3 {P : Program} {σ : VS} {K : Eff → Prop} {t : TypeId} {a0 a1 a2 : V} {r : List V} (h1 : szq P t = some 3) (h2 : agq P t = some true) : vload P σ t (.p (.ref (a0 :: a1 :: a2 :: r))) K = K ⟨.p (.agg [a0, a1, a2]), [], []⟩ := by
 simp [vload, h1, h2, wantO, sub, unAggV]
theorem sub_u {t : CTab} {i s : Nat} (h4 : t.banks.length ≤ 4) (hs : s < 16) : (bitI .andNot .u64 (s : Int) (avV t i : Int) == 0) = subB s (avV t i) := sub_at s hs _ (avV_lt h4)
abbrev capS (t : CTab) (x : CStrip) (i : Nat) : List V := [.ref [nn t.water, nn t.air, .sl (t.banks.map bnkV), .sl (x.ents.map p2), .sl (x.tars.map p2)], .ref [nn i]]
theorem speci98 (t : CTab) (x : CStrip) (i : Nat) (ht : TabOk t) (hi : i < 1000) : SpecI Tryz.prog Γ0 98 (capS t x i) (setY t i) := by
 have h4 := ht.len.2
 have hA : 2 ^ t.banks.length ≤ 16 := cntA_le h4
 have hs32 := spec32 t h4
 have hs86 := spec86 t i ht (by omega)
 refine specI_of mixed (fun _ _ _ h => h) Tryz.func98 (by decide +kernel) rfl rfl rfl (by simp [Tryz.f98]) (by decide +kernel) fun l => ?_; simp only [argsG, Nat.zero_add, Nat.reduceAdd]
 refine c_reg fun K hK => ?_
 simp only [vm, vr, q98, vload_ref3, reduceIte, Nat.reduceEqDiff, reduceCtorEq]
 (apply s_call (hs32); (case hf => rfl); (case hq => (simp only [vm, reduceIte, Nat.reduceEqDiff, reduceCtorEq]; rfl)); (case hvs => rfl))
 simp only [vm, vr]
 (refine hK _ ?_; clear hK K)
 refine c_block1 ?_
 refine vcode_loop (fun n : Nat => [(0, L.p (V.yld l)), (1, L.p (V.ref [nn t.water, nn t.air, .sl (t.banks.map bnkV), .sl (x.ents.map p2), .sl (x.tars.map p2)])), (2, L.p (V.ref [nn i])), (7, L.p (nn ((2 ^ t.banks.length : Nat) : Int))), (8, L.p (nn n))]) (fun n => [(Key.y, M.cnt (preL t i n).length)]) (fun n => n ≤ 2 ^ t.banks.length) (fun n => 2 ^ t.banks.length - n) 0 (Nat.zero_le _) ?_ ?_
 ·
  (simp only [vm, vr, vmk, reduceIte, Nat.reduceEqDiff, reduceCtorEq]; try simp (disch := omega) only [wr64]; try omega)
  rfl
 ·
  intro n hn
  rcases Nat.lt_or_ge n (2 ^ t.banks.length) with hnl | hnl
  ·
   have kl : decide ((n : Int) < ((2 ^ t.banks.length : Nat) : Int)) = true := decide_eq_true (by omega)
   have wS : IntKind.wrap .u64 (n : Int) = (n : Int) := wrU (by omega) (by omega)
   have kb := sub_u (t := t) (i := i) h4 (show n < 16 by omega)
   cases c : subB n (avV t i) with
   | true =>
    rw [c] at kb
    refine c_reg fun K hK => ?_
    simp only [vm, vr, kl, reduceIte, Nat.reduceEqDiff, reduceCtorEq]
    (refine hK _ ?_; clear hK K)
    refine c_if _ rfl (fun hb1 => ?_) (fun hb1 => ?_) <;> (have hp1 := hb1; try simp only [] at hp1)
    refine c_skip ?_
    refine c_block ?_
    refine c_reg fun K hK => ?_
    simp only [vm, vr, reduceIte, Nat.reduceEqDiff, reduceCtorEq]
    (refine hK _ ?_; clear hK K)
    refine c_yregg _ _ (ysplit 12 rfl) fun K hK => ?_
    simp only [vm, vr, q98, vload_ref3, wS, cvis, reduceIte, Nat.reduceEqDiff, Nat.reduceAdd, reduceCtorEq]
    (apply s_call (hs86); (case hf => rfl); (case hq => (simp only [vm, reduceIte, Nat.reduceEqDiff, reduceCtorEq]; rfl)); (case hvs => rfl))
    simp only [vm, vr, wS, cvis, kb, reduceIte, Nat.reduceEqDiff, reduceCtorEq]
    (apply vyl_y; (case hf => rfl); (case hq => (simp only [vm, reduceIte, Nat.reduceEqDiff, reduceCtorEq]; rfl)); (case hi => rfl))
    rotate_left
    simp only [vm, vr, reduceIte, Nat.reduceEqDiff, reduceCtorEq]
    (refine hK _ ?_; clear hK K)
    refine vcode_if _ rfl (fun hb2 => ?_) (fun hb2 => ?_) <;> (have hp2 := hb2; try simp only [] at hp2)
    cases hb2
    refine c_skip1 ?_
    simp only [thenV_n, blockV_n]
    refine c_reg1 fun K hK => ?_
    simp only [vm, vr, reduceIte, Nat.reduceEqDiff, reduceCtorEq]
    (simp (disch := omega) only [wr64]; try simp only [vm, vr, vt, vp, q98, mapbnk, vload_ref3, kl, wS, cvis, kb, hb1, hb2, Int.reduceBNe, Int.reduceBEq, Int.reduceLT, Int.reduceLE, Int.reduceGT, Int.reduceGE, decide_true, decide_false, bne_self_eq_false, beq_self_eq_true, reduceIte, Nat.reduceEqDiff, Nat.reduceAdd, Nat.reduceLeDiff, Nat.reduceMul, Nat.reduceLT, reduceCtorEq])
    (refine hK _ ?_; clear hK K)
    simp only [thenV_n]
    rotate_left
    simp only [vm, vr, reduceIte, Nat.reduceEqDiff, reduceCtorEq]
    (refine hK _ ?_; clear hK K)
    refine vcode_if _ rfl (fun hb3 => ?_) (fun hb3 => ?_) <;> (have hp3 := hb3; try simp only [] at hp3)
    refine c_ret1 ?_
    simp only [thenV_r, blockV_r]
    simp only [vm, vr, reduceIte, reduceCtorEq]
    rotate_left
    cases hb3
    cases hb1
    all_goals first
     | exact .inr trivial
     | exact ⟨rfl, by rw [setY_at hnl c]⟩
     | (refine ⟨n + 1, ?_, by omega, by omega⟩; ((show Wk _ _ _; simp only [vm, vr, vmk, reduceIte, Nat.reduceEqDiff, reduceCtorEq]; (try simp (disch := omega) only [wr64]); try omega)); (rw [preL_yes c, List.length_append]; first | done | exact ⟨by omega, rfl⟩ | rfl | simp))
   | false =>
    rw [c] at kb
    refine c_reg fun K hK => ?_
    simp only [vm, vr, kl, reduceIte, Nat.reduceEqDiff, reduceCtorEq]
    (refine hK _ ?_; clear hK K)
    refine c_if _ rfl (fun hb1 => ?_) (fun hb1 => ?_) <;> (have hp1 := hb1; try simp only [] at hp1)
    refine c_skip ?_
    refine c_block ?_
    refine c_reg fun K hK => ?_
    simp only [vm, vr, reduceIte, Nat.reduceEqDiff, reduceCtorEq]
    (refine hK _ ?_; clear hK K)
    refine c_yregg _ _ (ysplit 12 rfl) fun K hK => ?_
    simp only [vm, vr, q98, vload_ref3, wS, cvis, reduceIte, Nat.reduceEqDiff, Nat.reduceAdd, reduceCtorEq]
    (apply s_call (hs86); (case hf => rfl); (case hq => (simp only [vm, reduceIte, Nat.reduceEqDiff, reduceCtorEq]; rfl)); (case hvs => rfl))
    simp only [vm, vr, kb, reduceIte, Nat.reduceEqDiff, reduceCtorEq]
    (refine hK _ ?_; clear hK K)
    refine vcode_if _ rfl (fun hb2 => ?_) (fun hb2 => ?_) <;> (have hp2 := hb2; try simp only [] at hp2)
    cases hb2
    refine c_skip1 ?_
    simp only [thenV_n, blockV_n]
    refine c_reg1 fun K hK => ?_
    simp only [vm, vr, reduceIte, Nat.reduceEqDiff, reduceCtorEq]
    (simp (disch := omega) only [wr64]; try simp only [vm, vr, vt, vp, q98, mapbnk, vload_ref3, kl, wS, cvis, kb, hb1, hb2, Int.reduceBNe, Int.reduceBEq, Int.reduceLT, Int.reduceLE, Int.reduceGT, Int.reduceGE, decide_true, decide_false, bne_self_eq_false, beq_self_eq_true, reduceIte, Nat.reduceEqDiff, Nat.reduceAdd, Nat.reduceLeDiff, Nat.reduceMul, Nat.reduceLT, reduceCtorEq])
    (refine hK _ ?_; clear hK K)
    simp only [thenV_n]
    rotate_left
    cases hb1
    all_goals first
     | exact .inr trivial
     | (refine ⟨n + 1, ?_, by omega, by omega⟩; ((show Wk _ _ _; simp only [vm, vr, vmk, reduceIte, Nat.reduceEqDiff, reduceCtorEq]; (try simp (disch := omega) only [wr64]); try omega)); (rw [preL_no c]; first | done | exact ⟨by omega, rfl⟩ | rfl | simp))
  ·
   have kl : decide ((n : Int) < ((2 ^ t.banks.length : Nat) : Int)) = false := decide_eq_false (by omega)
   obtain rfl : n = 2 ^ t.banks.length := by omega
   refine c_reg fun K hK => ?_
   simp only [vm, vr, kl, setY_all, reduceIte, Nat.reduceEqDiff, reduceCtorEq]
   (refine hK _ ?_; clear hK K)
   refine c_if _ rfl (fun hb1 => ?_) (fun hb1 => ?_) <;> (have hp1 := hb1; try simp only [] at hp1)
   cases hb1
   refine c_exit ?_
   simp only [thenV_e, blockV_e, reduceIte]
   simp only [vm, vr, reduceIte, reduceCtorEq]
   exact .inl trivial
theorem spec77 (t : CTab) (x : CStrip) (i : Nat) : Sp0 77 [stpV t x, nn i] (R.v (.fn 98 [] (capS t x i))) := by
 refine spec_of mixed (fun _ _ _ h => h) Tryz.func77 (by decide +kernel) rfl (rs := _) rfl (by rfl) rfl (by simp [Tryz.f77]) (by decide +kernel) ?_; simp only [argsG, Nat.zero_add]
 refine c_reg fun K hK => ?_
 simp only [vm, vr, reduceIte, Nat.reduceEqDiff, Nat.reduceAdd, reduceCtorEq]
 refine need_by (by first | assumption | omega | (simp; done) | (simp; omega)) ?_
 refine need_by (by first | assumption | omega | (simp; done) | (simp; omega)) ?_
 (refine hK _ ?_; clear hK K)
 refine c_reg fun K hK => ?_
 simp only [vm, vr, reduceIte, Nat.reduceEqDiff, Nat.reduceAdd, reduceCtorEq]
 (refine hK _ ?_; clear hK K)
 refine c_ret1 ?_
 simp only [vm, vr, reduceIte, Nat.reduceEqDiff, reduceCtorEq]
theorem setL_len {t : CTab} {i : Nat} : (setL t i).length ≤ 2 ^ t.banks.length := by
 have h2 := List.length_filter_le (fun s => subB s (avV t i)) (List.range (cntA t))
 rw [List.length_range] at h2
 exact h2
theorem spec63 (t : CTab) (x : CStrip) (i : Nat) (ht : TabOk t) (hx : StrOk x) (hi : i < x.ents.length) : Sp0 63 [stpV t x, nn i] (R.v (.sl ((natL (rchS t x i)).map nn))) := by
 have h4 := ht.len.2
 have hA : 2 ^ t.banks.length ≤ 16 := cntA_le h4
 have hxl := hx.len
 have hI := speci98 t x i ht (by omega)
 refine spec_of mixed (fun _ _ _ h => h) Tryz.func63 (by decide +kernel) rfl (rs := _) rfl (by rfl) rfl (by simp [Tryz.f63]) (by decide +kernel) ?_; simp only [argsG, Nat.zero_add]
 refine c_reg fun K hK => ?_
 simp only [vm, vr, reduceIte, Nat.reduceEqDiff, Nat.reduceAdd, reduceCtorEq]
 refine need_by (by first | assumption | omega | (simp; done) | (simp; omega)) ?_
 refine need_by (by first | assumption | omega | (simp; done) | (simp; omega)) ?_
 (refine hK _ ?_; clear hK K)
 refine c_reg fun K hK => ?_
 simp only [vm, vr, q63, reduceIte, Nat.reduceEqDiff, reduceCtorEq]
 refine need_by (by first | assumption | omega | (simp; done) | (simp; omega)) ?_
 (refine hK _ ?_; clear hK K)
 refine c_assoc ?_
 refine c_reg fun K hK => ?_
 simp only [vm, vr, q63, reduceIte, Nat.reduceEqDiff, Nat.reduceAdd, Nat.reduceLeDiff, reduceCtorEq]
 (apply s_call (spec77 _ _ _); (case hf => rfl); (case hq => (simp only [vm, reduceIte, Nat.reduceEqDiff, reduceCtorEq]; rfl)); (case hvs => rfl))
 simp only [vm, vr]
 (refine hK _ ?_; clear hK K)
 refine c_block ?_
 refine vcode_range [(2, L.own 2 0), (3, L.own 3 0), (4, L.nilS), (5, L.own 5 0)] (fun o : List Nat => [(Key.b 5, M.box 1), (Key.c 5 0, M.cell (L.arr 60 0)), (Key.a 60, M.arr 0 3 1 ((natL o).map nn)), (Key.b 3, M.box 1), (Key.c 3 0, M.cell (L.p (nn i))), (Key.b 2, M.box 5), (Key.c 2 0, M.cell (L.p (nn t.water))), (Key.c 2 1, M.cell (L.p (nn t.air))), (Key.c 2 2, M.cell (L.p (V.sl (t.banks.map bnkV)))), (Key.c 2 3, M.cell (L.p (V.sl (x.ents.map p2)))), (Key.c 2 4, M.cell (L.p (V.sl (x.tars.map p2))))]) (fun k o => o = rchN t x i k) [] hI rfl rfl (fun _ => rfl) rfl rfl ?_ (fun vs hv => ?_) ?_ ?_
 ·
  (simp only [vm, vmk, reduceIte, Nat.reduceEqDiff, Nat.reduceAdd, Nat.reduceLT, reduceCtorEq]; try simp (disch := omega) only [wr64]; try omega)
  exact .inr trivial
 ·
  obtain ⟨k, hk⟩ := List.mem_iff_getElem?.1 hv
  obtain ⟨s, _, _, _, rfl⟩ := setY_get hk
  rfl
 ·
  rintro k vs o hv rfl
  obtain ⟨s, hs0, s1', s2, rfl⟩ := setY_get hv
  have s1 : s < 2 ^ t.banks.length := s1'
  have hol : (rchN t x i k).length ≤ 16 := by
   have h1 := List.length_filter_le (fun s => ansA t x i s == 2) ((setL t i).take k)
   have h3 := List.length_take_le' k (setL t i)
   have h5 := setL_len (t := t) (i := i)
   unfold rchN
   omega
  have hs59 : Sp0 59 [stpV t x, nn i, uu s] (R.v (nn (ansA t x i s))) := spec59 t x i s ht hx hi (by omega)
  have wI : IntKind.wrap .i64 (s : Int) = (s : Int) := wr64 (by omega) (by omega)
  cases c : (ansA t x i s == 2) with
  | true =>
   have hsu := rchN_yes hs0 c
   simp only [vr]
   refine c_reg fun K hK => ?_
   simp only [vm, vr, reduceIte, Nat.reduceEqDiff]
   (refine hK _ ?_; clear hK K)
   refine c_block1 ?_
   refine c_reg fun K hK => ?_
   simp only [vm, vr, q63, reduceIte, Nat.reduceEqDiff, Nat.reduceAdd, Nat.reduceLeDiff, reduceCtorEq]
   (apply s_call (hs59); (case hf => rfl); (case hq => (simp only [vm, reduceIte, Nat.reduceEqDiff]; rfl)); (case hvs => rfl))
   simp only [vm, vr, c, reduceIte, Nat.reduceEqDiff]
   (refine hK _ ?_; clear hK K)
   refine vcode_if _ rfl (fun hb1 => ?_) (fun hb1 => ?_) <;> (have hp1 := hb1; try simp only [] at hp1)
   refine c_reg1 fun K hK => ?_
   simp only [vm, vr, vp, q63, cvsi, wI, reduceIte, Nat.reduceEqDiff, Nat.reduceAdd, Nat.reduceLeDiff, Nat.reduceMul, reduceCtorEq]
   refine need_by (by first | assumption | omega | (simp; done) | (simp; omega)) ?_
   refine need_by (by first | assumption | omega | (simp; done) | (simp; omega)) ?_
   (refine hK _ ?_; clear hK K)
   simp only [blockV_n]
   simp only [vr]
   rotate_left
   cases hb1
   refine ⟨rchN t x i (k + 1), ?_, rfl⟩
   rw [hsu]
   ((show Wk _ _ _; simp only [vm, vmk, reduceIte, Nat.reduceEqDiff, Nat.reduceAdd, Nat.reduceLT, reduceCtorEq]; (try simp (disch := omega) only [wr64]); try omega))
   all_goals first | (simp; done) | exact ⟨fun _ => trivial, by omega⟩ | exact ⟨by omega, by simp⟩
  | false =>
   have hsu := rchN_no hs0 c
   simp only [vr]
   refine c_reg fun K hK => ?_
   simp only [vm, vr, reduceIte, Nat.reduceEqDiff]
   (refine hK _ ?_; clear hK K)
   refine c_block1 ?_
   refine c_reg fun K hK => ?_
   simp only [vm, vr, q63, reduceIte, Nat.reduceEqDiff, Nat.reduceAdd, Nat.reduceLeDiff, reduceCtorEq]
   (apply s_call (hs59); (case hf => rfl); (case hq => (simp only [vm, reduceIte, Nat.reduceEqDiff]; rfl)); (case hvs => rfl))
   simp only [vm, vr, c, reduceIte, Nat.reduceEqDiff]
   (refine hK _ ?_; clear hK K)
   refine vcode_if _ rfl (fun hb1 => ?_) (fun hb1 => ?_) <;> (have hp1 := hb1; try simp only [] at hp1)
   cases hb1
   refine c_skip1 ?_
   simp only [blockV_n]
   simp only [vr]
   refine ⟨rchN t x i (k + 1), ?_, rfl⟩
   rw [hsu]
   ((show Wk _ _ _; simp only [vm, vmk, reduceIte, Nat.reduceEqDiff, Nat.reduceAdd, Nat.reduceLT, reduceCtorEq]; (try simp (disch := omega) only [wr64]); try omega))
 ·
  rintro o rfl
  rw [setY_len, rchN_all]
  simp only [thenV_n, blockV_n]
  refine c_reg fun K hK => ?_
  simp only [vm, vr, q63, reduceIte, Nat.reduceEqDiff, Nat.reduceLeDiff, reduceCtorEq]
  (refine hK _ ?_; clear hK K)
  refine c_ret1 ?_
  simp only [vm, vr, reduceIte, Nat.reduceEqDiff, reduceCtorEq]
theorem spec40 (t : CTab) (x : CStrip) (i : Nat) (ht : TabOk t) (hx : StrOk x) (hi : i < x.ents.length) : Sp0 40 [stpV t x, nn i] (R.v (.sl ((natL (pmtS t x i)).map nn))) := by
 have h4 := ht.len.2
 have hA : 2 ^ t.banks.length ≤ 16 := cntA_le h4
 have hxl := hx.len
 have hI := speci98 t x i ht (by omega)
 have hs63 := spec63 t x i ht hx hi
 cases c : decide ((((rchS t x i).length : Nat) : Int) > 0) with
 | true =>
  have hp : pmtS t x i = rchS t x i := by unfold pmtS; rw [if_pos (by have := of_decide_eq_true c; omega)]
  rw [hp]
  refine spec_of mixed (fun _ _ _ h => h) Tryz.func40 (by decide +kernel) rfl (rs := _) rfl (by rfl) rfl (by simp [Tryz.f40]) (by decide +kernel) ?_; simp only [argsG, Nat.zero_add]
  refine c_reg fun K hK => ?_
  simp only [vm, vr, reduceIte, Nat.reduceAdd, reduceCtorEq]
  refine need_by (by first | assumption | omega | (simp; done) | (simp; omega)) ?_
  (refine hK _ ?_; clear hK K)
  refine c_assoc ?_
  refine c_reg fun K hK => ?_
  simp only [vm, vr, q40, reduceIte, Nat.reduceEqDiff, Nat.reduceAdd, Nat.reduceLeDiff, reduceCtorEq]
  (apply s_call (hs63); (case hf => rfl); (case hq => (simp only [vm, reduceIte, Nat.reduceEqDiff, reduceCtorEq]; rfl)); (case hvs => rfl))
  simp only [vm, vr, reduceIte, Nat.reduceEqDiff, reduceCtorEq]
  (refine hK _ ?_; clear hK K)
  refine c_assoc ?_
  refine c_reg fun K hK => ?_
  simp only [vm, vr, q40, c, reduceIte, Nat.reduceEqDiff, reduceCtorEq]
  (refine hK _ ?_; clear hK K)
  refine c_if _ rfl (fun hb1 => ?_) (fun hb1 => ?_) <;> (have hp1 := hb1; try simp only [] at hp1)
  refine c_assoc ?_
  refine c_reg fun K hK => ?_
  simp only [vm, vr, reduceIte, Nat.reduceEqDiff, reduceCtorEq]
  (refine hK _ ?_; clear hK K)
  refine c_ret ?_
  simp only [vm, vr, reduceIte, Nat.reduceEqDiff, reduceCtorEq]
  cases hb1
 | false =>
  have hp : pmtS t x i = setL t i := by unfold pmtS; rw [if_neg (by have := of_decide_eq_false c; omega)]
  rw [hp]
  refine spec_of mixed (fun _ _ _ h => h) Tryz.func40 (by decide +kernel) rfl (rs := _) rfl (by rfl) rfl (by simp [Tryz.f40]) (by decide +kernel) ?_; simp only [argsG, Nat.zero_add]
  refine c_reg fun K hK => ?_
  simp only [vm, vr, reduceIte, Nat.reduceAdd, reduceCtorEq]
  refine need_by (by first | assumption | omega | (simp; done) | (simp; omega)) ?_
  (refine hK _ ?_; clear hK K)
  refine c_assoc ?_
  refine c_reg fun K hK => ?_
  simp only [vm, vr, q40, reduceIte, Nat.reduceEqDiff, Nat.reduceAdd, Nat.reduceLeDiff, reduceCtorEq]
  (apply s_call (hs63); (case hf => rfl); (case hq => (simp only [vm, reduceIte, Nat.reduceEqDiff, reduceCtorEq]; rfl)); (case hvs => rfl))
  simp only [vm, vr, reduceIte, Nat.reduceEqDiff, reduceCtorEq]
  (refine hK _ ?_; clear hK K)
  refine c_assoc ?_
  refine c_reg fun K hK => ?_
  simp only [vm, vr, q40, c, reduceIte, Nat.reduceEqDiff, reduceCtorEq]
  (refine hK _ ?_; clear hK K)
  refine c_if _ rfl (fun hb1 => ?_) (fun hb1 => ?_) <;> (have hp1 := hb1; try simp only [] at hp1)
  cases hb1
  refine c_skip ?_
  refine c_reg fun K hK => ?_
  simp only [vm, vr, q40, reduceIte, Nat.reduceEqDiff, reduceCtorEq]
  refine need_by (by first | assumption | omega | (simp; done) | (simp; omega)) ?_
  (refine hK _ ?_; clear hK K)
  refine c_assoc ?_
  refine c_reg fun K hK => ?_
  simp only [vm, vr, q40, reduceIte, Nat.reduceEqDiff, Nat.reduceAdd, Nat.reduceLeDiff, reduceCtorEq]
  (apply s_call (spec77 _ _ _); (case hf => rfl); (case hq => (simp only [vm, reduceIte, Nat.reduceEqDiff, reduceCtorEq]; rfl)); (case hvs => rfl))
  simp only [vm, vr]
  (refine hK _ ?_; clear hK K)
  refine c_block ?_
  refine vcode_range [(4, L.nilS), (6, L.own 6 0)] (fun o : List Nat => [(Key.b 6, M.box 1), (Key.c 6 0, M.cell (L.arr 60 0)), (Key.a 60, M.arr 0 3 1 ((natL o).map nn))]) (fun k o => o = (setL t i).take k) [] hI rfl rfl (fun _ => rfl) rfl (by simp) ?_ (fun vs hv => ?_) ?_ ?_
  ·
   (simp only [vm, vmk, reduceIte, Nat.reduceEqDiff, reduceCtorEq]; try simp (disch := omega) only [wr64]; try omega)
   exact .inr trivial
  ·
   obtain ⟨k, hk⟩ := List.mem_iff_getElem?.1 hv
   obtain ⟨s, _, _, _, rfl⟩ := setY_get hk
   rfl
  ·
   rintro k vs o hv rfl
   obtain ⟨s, hs0, s1', s2, rfl⟩ := setY_get hv
   have s1 : s < 2 ^ t.banks.length := s1'
   have hol : ((setL t i).take k).length ≤ 16 := by
    have h3 := List.length_take_le k (setL t i)
    have h5 := setL_len (t := t) (i := i)
    have h6 := List.length_take_le' k (setL t i)
    omega
   have wI : IntKind.wrap .i64 (s : Int) = (s : Int) := wr64 (by omega) (by omega)
   have hsu := take_at hs0
   simp only [vr]
   refine c_reg fun K hK => ?_
   simp only [vm, vr, reduceIte, Nat.reduceEqDiff]
   (refine hK _ ?_; clear hK K)
   refine c_block1 ?_
   refine c_reg1 fun K hK => ?_
   simp only [vm, vr, vp, q40, cvsi, wI, reduceIte, Nat.reduceEqDiff, Nat.reduceAdd, Nat.reduceLeDiff, Nat.reduceMul, reduceCtorEq]
   refine need_by (by first | assumption | omega | (simp; done) | (simp; omega)) ?_
   refine need_by2 ?_ ?_
   (refine hK _ ?_; clear hK K)
   simp only [blockV_n]
   simp only [vr]
   rotate_left
   rotate_left
   refine ⟨(setL t i).take (k + 1), ?_, rfl⟩
   rw [hsu]
   ((show Wk _ _ _; simp only [vm, vmk, reduceIte, Nat.reduceEqDiff, reduceCtorEq]; (try simp (disch := omega) only [wr64]); try omega))
   all_goals first | (simp; done) | exact ⟨fun _ => trivial, by omega⟩ | exact ⟨by omega, by simp⟩
  ·
   rintro o rfl
   rw [setY_len, List.take_length]
   simp only [thenV_n, blockV_n]
   refine c_reg fun K hK => ?_
   simp only [vm, vr, q40, reduceIte, Nat.reduceEqDiff, Nat.reduceLeDiff, reduceCtorEq]
   (refine hK _ ?_; clear hK K)
   refine c_ret1 ?_
   simp only [vm, vr, reduceIte, Nat.reduceEqDiff, reduceCtorEq]
end Go.Vm
