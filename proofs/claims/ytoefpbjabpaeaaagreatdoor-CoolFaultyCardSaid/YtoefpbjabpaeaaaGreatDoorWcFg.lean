import Derived.Test.YtoefpbjabpaeaaaGreatDoorVmBC
import Derived.Test.YtoefpbjabpaeaaaGreatDoorWcE
import Derived.Test.YtoefpbjabpaeaaaGreatDoorWcFp
set_option linter.all false
namespace Go.Vm
open Go.Proofs
set_option maxRecDepth 20000
set_option maxHeartbeats 8000000
--DEF CL = 96
/-! all sets of faults of a size, one by one -/
theorem isNil_em {σ : VS} {b : Bool} : isNil σ (.em b) = some b := rfl
theorem conts_em {σ : VS} {b : Bool} : conts σ (.em b) = some ([], []) := rfl
theorem clone_fe : Sp0 96 [.sl []] (.one (.c (.arr 77 2 []))) := by
 refine spec_clone0 (by omega) mixed (fun _ _ _ h => h) Tryz.func96 (by decide +kernel) rfl (rs := _) rfl rfl (by simp [Tryz.f96]) (by decide +kernel) ?_ ?_
 ·
  simp only [argsL]
  refine c_reg fun K hK => ?_
  simp only [vm]
  (refine hK _ ?_; clear hK K)
  refine c_assoc ?_
  refine c_reg fun K hK => ?_
  simp only [vm, q96, isNil_em, reduceIte, Nat.reduceEqDiff, reduceCtorEq]
  (refine hK _ ?_; clear hK K)
  refine c_if _ rfl (fun hb1 => ?_) (fun hb1 => ?_) <;> (have hp1 := hb1; try simp only [] at hp1)
  refine c_assoc ?_
  refine c_reg fun K hK => ?_
  simp only [vm]
  (refine hK _ ?_; clear hK K)
  refine c_ret ?_
  simp only [vm, vr, reduceIte, Nat.reduceEqDiff, reduceCtorEq]
  exact ⟨_, rfl, rfl⟩
  cases hb1
 ·
  simp only [argsL]
  refine c_reg fun K hK => ?_
  simp only [vm]
  (refine hK _ ?_; clear hK K)
  refine c_assoc ?_
  refine c_reg fun K hK => ?_
  simp only [vm, q96, isNil_em, reduceIte, Nat.reduceEqDiff, reduceCtorEq]
  (refine hK _ ?_; clear hK K)
  refine c_if _ rfl (fun hb1 => ?_) (fun hb1 => ?_) <;> (have hp1 := hb1; try simp only [] at hp1)
  cases hb1
  refine c_skip ?_
  refine c_reg fun K hK => ?_
  simp only [vm, vr, vp, q96, conts_em, reduceIte, Nat.reduceEqDiff, Nat.reduceAdd, Nat.reduceLeDiff, Nat.reduceMul, Nat.reduceLT, reduceCtorEq]
  refine need_by (by first | assumption | omega | (simp; done) | (simp; omega)) ?_
  refine need_by (by first | assumption | omega | (simp; done) | (simp; omega)) ?_
  (refine hK _ ?_; clear hK K)
  refine c_ret1 ?_
  simp only [vm, vr, reduceIte, Nat.reduceEqDiff, reduceCtorEq]
  exact ⟨_, rfl, rfl⟩
theorem clone_fn (F : Flt) (h0 : F ≠ []) (hl : F.length < 1000000) : Sp0 96 [fsV F] (.one (.c (.arr 77 2 (F.map fV)))) := by
 obtain ⟨y, ys, rfl⟩ := List.exists_cons_of_ne_nil h0
 show Sp0 96 [.sl ((y :: ys).map fV)] _
 refine spec_of_x mixed (fun _ _ _ h => h) Tryz.func96 (by decide +kernel) rfl (rs := _) rfl (by rfl) rfl (by simp [Tryz.f96]) (by decide +kernel) ?_; simp only [argsG]
 refine c_reg fun K hK => ?_
 simp only [vm]
 (refine hK _ ?_; clear hK K)
 refine c_assoc ?_
 refine c_reg fun K hK => ?_
 simp only [vm, q96, reduceIte, Nat.reduceEqDiff, reduceCtorEq]
 (refine hK _ ?_; clear hK K)
 refine c_if _ rfl (fun hb1 => ?_) (fun hb1 => ?_) <;> (have hp1 := hb1; try simp only [] at hp1)
 cases hb1
 refine c_skip ?_
 refine c_reg fun K hK => ?_
 simp only [vm, vr, vp, q96, mapf, reduceIte, Nat.reduceEqDiff, Nat.reduceAdd, Nat.reduceLeDiff, Nat.reduceMul, Nat.reduceLT, reduceCtorEq]
 refine need_by (by first | assumption | omega | (simp; done) | (simp; omega)) ?_
 refine need_by2 ?_ ?_
 (refine hK _ ?_; clear hK K)
 refine c_ret1 ?_
 simp only [vm, vr, reduceIte, Nat.reduceEqDiff, reduceCtorEq]
 exact ⟨_, rfl, rfl⟩
 all_goals (simp only [List.length_cons] at hl; omega)
theorem clone_f (F : Flt) (hl : F.length < 1000000) : Sp0 96 [fsV F] (.one (.c (.arr 77 2 (F.map fV)))) := by
 by_cases h : F = []
 ·
  subst h; exact clone_fe
 ·
  exact clone_fn F h hl
def midG (n size d : Nat) (F : Flt) (j : Nat) : Nat → List Flt
 | 0 => preG n size d F j
 | 1 => preG n size d F j ++ grwL n size (d - j - 1) (F ++ [(((n - d + j : Nat) : Int), false)])
 | _ + 2 => preG n size d F (j + 1)
theorem mid_two {n size d j : Nat} {F : Flt} : preG n size d F (j + 1) = preG n size d F j ++ grwL n size (d - j - 1) (F ++ [(((n - d + j : Nat) : Int), false)]) ++ grwL n size (d - j - 1) (F ++ [(((n - d + j : Nat) : Int), true)]) := by rw [preG, List.append_assoc]
theorem up_f {n size d j l i : Nat} {F : Flt} {Yp : Nat → Nat → List V → Prop} (hY : ∀ (k : Nat) (z : List V), ((grwT n size d F).map fun G => [fsV G])[k]? = some z → Yp l (i + k) z) (hd : d ≤ n) (hj : j < d) : ∀ (k : Nat) (z : List V), ((grwL n size (d - j - 1) (F ++ [(((n - d + j : Nat) : Int), false)])).map fun G => [fsV G])[k]? = some z → Yp l (i + (preG n size d F j).length + k) z := by
 intro k z h
 rw [Nat.add_assoc]
 apply hY
 rw [List.getElem?_map] at h ⊢
 obtain ⟨G, hG, rfl⟩ := Option.map_eq_some_iff.1 h
 rw [preG_f hd hj hG]; rfl
theorem up_t {n size d j l i : Nat} {F : Flt} {Yp : Nat → Nat → List V → Prop} (hY : ∀ (k : Nat) (z : List V), ((grwT n size d F).map fun G => [fsV G])[k]? = some z → Yp l (i + k) z) (hd : d ≤ n) (hj : j < d) : ∀ (k : Nat) (z : List V), ((grwL n size (d - j - 1) (F ++ [(((n - d + j : Nat) : Int), true)])).map fun G => [fsV G])[k]? = some z → Yp l (i + (midG n size d F j 1).length + k) z := by
 intro k z h
 rw [Nat.add_assoc]
 apply hY
 rw [List.getElem?_map] at h ⊢
 obtain ⟨G, hG, rfl⟩ := Option.map_eq_some_iff.1 h
 rw [midG, preG_t hd hj hG]; rfl
theorem grow_ok (n size : Nat) (h4 : n ≤ 4) : ∀ (d : Nat) (F : Flt), F.length + d ≤ n → SpecY Tryz.prog Γ0 false 77 (fun l => [fsV F, nn ((n - d : Nat) : Int), nn n, nn size, .yld l]) ((grwL n size d F).map fun G => [fsV G]) := by
 intro d
 induction d using Nat.strongRecOn with
 | ind d ih =>
  intro F hd
  by_cases c : F.length = size
  ·
   have kc : ((F.length : Int) == (size : Int)) = true := by rw [beq_iff_eq]; omega
   have e : grwL n size d F = [F] := if_pos c
   rw [e]
   refine specY_of mixed (fun _ _ _ h => h) Tryz.func77 (by decide +kernel) rfl (rs := _) rfl rfl (by intro l; simp [Tryz.f77]) (by decide +kernel) fun l i Yp hY => ?_; simp only [argsG, Nat.zero_add, Nat.reduceAdd]
   refine c_reg fun K hK => ?_
   simp only [vm, vr]
   (refine hK _ ?_; clear hK K)
   refine c_assoc ?_
   refine c_reg fun K hK => ?_
   simp only [vm, vr, q77, kc, reduceIte, Nat.reduceEqDiff, reduceCtorEq]
   (refine hK _ ?_; clear hK K)
   refine c_if _ rfl (fun hb1 => ?_) (fun hb1 => ?_) <;> (have hp1 := hb1; try simp only [] at hp1)
   refine c_assoc ?_
   refine c_yreg _ _ _ (ysplit 2 rfl) fun K hK => ?_
   simp only [vm, vr, reduceIte, Nat.reduceEqDiff, Nat.reduceAdd, reduceCtorEq]
   (apply vyl_y; (case hf => rfl); (case hq => (simp only [vm, reduceIte, Nat.reduceEqDiff, reduceCtorEq]; rfl)); (case hi => rfl))
   rotate_left
   (refine hK _ ?_; clear hK K)
   refine c_ret ?_
   simp only [vm, vr, reduceIte, Nat.reduceEqDiff, reduceCtorEq]
   rotate_left
   (refine hK _ ?_; clear hK K)
   refine c_ret ?_
   simp only [vm, vr, reduceIte, Nat.reduceEqDiff, reduceCtorEq]
   rotate_left
   cases hb1
   all_goals first | exact .inr trivial | exact .inl trivial | exact hY 0 _ rfl
  ·
   have kc : ((F.length : Int) == (size : Int)) = false := by rw [beq_eq_false_iff_ne]; omega
   have e : grwL n size d F = grwT n size d F := if_neg c
   rw [e]
   refine specY_of mixed (fun _ _ _ h => h) Tryz.func77 (by decide +kernel) rfl (rs := _) rfl rfl (by intro l; simp [Tryz.f77]) (by decide +kernel) fun l i Yp hY => ?_; simp only [argsG, Nat.zero_add, Nat.reduceAdd]
   refine c_reg fun K hK => ?_
   simp only [vm, vr]
   (refine hK _ ?_; clear hK K)
   refine c_assoc ?_
   refine c_reg fun K hK => ?_
   simp only [vm, vr, q77, kc, reduceIte, Nat.reduceEqDiff, reduceCtorEq]
   (refine hK _ ?_; clear hK K)
   refine c_if _ rfl (fun hb1 => ?_) (fun hb1 => ?_) <;> (have hp1 := hb1; try simp only [] at hp1)
   cases hb1
   refine c_skip ?_
   refine c_assoc ?_
   refine c_reg fun K hK => ?_
   simp only [vm, vr, reduceIte, Nat.reduceEqDiff, reduceCtorEq]
   (refine hK _ ?_; clear hK K)
   refine c_block ?_
   refine vcode_loop (fun j : Nat => [(0, L.p (fsV F)), (2, L.p (nn n)), (3, L.p (nn size)), (4, L.p (V.yld l)), (10, L.p (V.b false)), (11, L.p (nn ((n - d + j : Nat) : Int)))]) (fun j => [(Key.y, M.cnt (i + (preG n size d F j).length))]) (fun j => j ≤ d) (fun j => d - j) 0 (Nat.zero_le _) ?_ ?_
   ·
    (simp only [vm, vr, vmk, reduceIte, Nat.reduceEqDiff, reduceCtorEq]; try simp (disch := omega) only [wr64]; try omega)
    exact ⟨rfl, rfl⟩
   ·
    intro j hj
    rcases Nat.lt_or_ge j d with hjd | hjd
    ·
     have kl : decide (((n - d + j : Nat) : Int) < (n : Int)) = true := decide_eq_true (by omega)
     refine c_assoc ?_
     refine c_reg fun K hK => ?_
     simp only [vm, vr, kl, reduceIte, Nat.reduceEqDiff, reduceCtorEq]
     (refine hK _ ?_; clear hK K)
     refine c_if _ rfl (fun hb2 => ?_) (fun hb2 => ?_) <;> (have hp2 := hb2; try simp only [] at hp2)
     refine c_skip ?_
     refine c_block ?_
     refine c_reg fun K hK => ?_
     simp only [vm, vr, q77, reduceIte, Nat.reduceAdd, Nat.reduceLeDiff]
     (refine hK _ ?_; clear hK K)
     refine c_block1 ?_
     rotate_left
     cases hb2
     have hFl : F.length < 1000000 := by omega
     have hs96 := clone_f F hFl
     have wb : IntKind.wrap .i64 (((n - d + j : Nat) : Int) + 1) = ((n - (d - j - 1) : Nat) : Int) := by rw [wr64 (by omega) (by omega)]; omega
     have uf := up_f hY (by omega) hjd
     have ut := up_t hY (by omega) hjd
     have hyf := ih (d - j - 1) (by omega) (F ++ [(((n - d + j : Nat) : Int), false)]) (by rw [List.length_append, List.length_singleton]; omega)
     have hyt := ih (d - j - 1) (by omega) (F ++ [(((n - d + j : Nat) : Int), true)]) (by rw [List.length_append, List.length_singleton]; omega)
     simp only [fsV, List.map_append, List.map_cons, List.map_nil] at hyf hyt
     refine vcode_loop (fun k : Nat => [(0, L.p (fsV F)), (2, L.p (nn n)), (3, L.p (nn size)), (4, L.p (V.yld l)), (10, L.p (V.b false)), (11, L.p (nn ((n - d + j : Nat) : Int))), (27, L.p (V.agg [V.b false, V.b true])), (28, L.p (nn k))]) (fun k => [(Key.y, M.cnt (i + (midG n size d F j k).length))]) (fun k => k ≤ 2) (fun k => 2 - k) 0 (Nat.zero_le _) ?_ ?_
     ·
      simp only [vm, vr, midG, vmk, reduceIte, Nat.reduceEqDiff, reduceCtorEq]
     ·
      intro k hk
      match k, hk with
      | 0, _ =>
       have hy77 := hyf
       have z0 : ((0 : Nat) : Int) = 0 := rfl
       refine c_reg fun K hK => ?_
       simp only [vm, vr, z0, midG, Int.reduceLT, decide_true, reduceIte, Nat.reduceEqDiff, reduceCtorEq]
       (refine hK _ ?_; clear hK K)
       refine c_if _ rfl (fun hb3 => ?_) (fun hb3 => ?_) <;> (have hp3 := hb3; try simp only [] at hp3)
       refine c_skip ?_
       refine c_block ?_
       refine c_reg fun K hK => ?_
       simp only [vm, vr, vp, q77, Int.reduceLE, reduceIte, Nat.reduceEqDiff, Nat.reduceAdd, Nat.reduceLeDiff, Nat.reduceMul, reduceCtorEq]
       refine need_by (by first | assumption | omega | (simp; done) | (simp; omega)) ?_
       (refine hK _ ?_; clear hK K)
       refine c_yreg _ _ _ (ysplit 12 rfl) fun K hK => ?_
       simp only [vm, vr, reduceIte, Nat.reduceAdd, reduceCtorEq]
       (apply s_calla (hs96); (case hf => rfl); (case hq => (simp only [vm, reduceIte, Nat.reduceEqDiff, reduceCtorEq]; rfl)); (case hvs => rfl); (case hfr => (simp only [vm, reduceIte, reduceCtorEq])); (case hfz => rfl))
       simp only [vm, vr, vp, q77, wb, reduceIte, Nat.reduceEqDiff, Nat.reduceAdd, Nat.reduceLeDiff, Nat.reduceMul, Nat.reduceLT, reduceCtorEq]
       refine need_by (by first | assumption | omega | (simp; done) | (simp; omega)) ?_
       refine need_by (by first | assumption | omega | (simp; done) | (simp; omega)) ?_
       (apply vyl_f (hy77); (case hf => rfl); (case hq => (simp only [vm, reduceIte, Nat.reduceEqDiff, reduceCtorEq]; rfl)); (case hi => rfl); (case hvs => rfl))
       rotate_left
       simp only [vm, vr, reduceIte, Nat.reduceEqDiff, reduceCtorEq]
       (refine hK _ ?_; clear hK K)
       refine vcode_if _ rfl (fun hb4 => ?_) (fun hb4 => ?_) <;> (have hp4 := hb4; try simp only [] at hp4)
       cases hb4
       refine c_skip1 ?_
       simp only [thenV_n, blockV_n]
       refine c_reg1 fun K hK => ?_
       simp only [vm, vr, reduceIte, Nat.reduceEqDiff, reduceCtorEq]
       (simp (disch := omega) only [wr64]; try simp only [vm, vr, vt, vp, q77, mapf, z0, wb, midG, hb1, hb2, hb3, hb4, Int.reduceBNe, Int.reduceBEq, Int.reduceLT, Int.reduceLE, Int.reduceGT, Int.reduceGE, decide_true, decide_false, bne_self_eq_false, beq_self_eq_true, reduceIte, Nat.reduceEqDiff, Nat.reduceAdd, Nat.reduceLeDiff, Nat.reduceMul, Nat.reduceLT, reduceCtorEq])
       (refine hK _ ?_; clear hK K)
       simp only [thenV_n]
       rotate_left
       simp only [vm, vr, reduceIte, Nat.reduceEqDiff, reduceCtorEq]
       (refine hK _ ?_; clear hK K)
       refine vcode_if _ rfl (fun hb5 => ?_) (fun hb5 => ?_) <;> (have hp5 := hb5; try simp only [] at hp5)
       refine c_reg fun K hK => ?_
       simp only [vm, vr]
       (refine hK _ ?_; clear hK K)
       refine c_ret1 ?_
       simp only [thenV_r, blockV_r]
       simp only [vm, vr, reduceIte, Nat.reduceEqDiff, reduceCtorEq]
       rotate_left
       cases hb5
       cases hb3
       all_goals first
        | exact uf
        | exact .inr trivial
        | (refine ⟨1, ?_, by omega, by omega⟩; ((show Wk _ _ _; simp only [vm, vr, midG, vmk, reduceIte, Nat.reduceEqDiff, reduceCtorEq]; (try simp (disch := omega) only [wr64]); try omega)); (all_goals (first | exact ⟨rfl, rfl⟩ | (simp only [List.length_append, Nat.add_assoc]; first | done | exact ⟨rfl, trivial⟩))))
      | 1, _ =>
       have hy77 := hyt
       have z1 : ((1 : Nat) : Int) = 1 := rfl
       refine c_reg fun K hK => ?_
       simp only [vm, vr, z1, Int.reduceLT, decide_true, reduceIte, Nat.reduceEqDiff, reduceCtorEq]
       (refine hK _ ?_; clear hK K)
       refine c_if _ rfl (fun hb3 => ?_) (fun hb3 => ?_) <;> (have hp3 := hb3; try simp only [] at hp3)
       refine c_skip ?_
       refine c_block ?_
       refine c_reg fun K hK => ?_
       simp only [vm, vr, q77, Int.reduceLE, reduceIte, Nat.reduceEqDiff, Nat.reduceAdd, Nat.reduceLeDiff, Nat.reduceMul, reduceCtorEq]
       refine need_by (by first | assumption | omega | (simp; done) | (simp; omega)) ?_
       (refine hK _ ?_; clear hK K)
       refine c_yreg _ _ _ (ysplit 12 rfl) fun K hK => ?_
       simp only [vm, vr, reduceIte, Nat.reduceAdd, reduceCtorEq]
       (apply s_calla (hs96); (case hf => rfl); (case hq => (simp only [vm, reduceIte, Nat.reduceEqDiff, reduceCtorEq]; rfl)); (case hvs => rfl); (case hfr => (simp only [vm, reduceIte, reduceCtorEq])); (case hfz => rfl))
       simp only [vm, vr, vp, q77, wb, reduceIte, Nat.reduceEqDiff, Nat.reduceAdd, Nat.reduceLeDiff, Nat.reduceMul, Nat.reduceLT, reduceCtorEq]
       refine need_by (by first | assumption | omega | (simp; done) | (simp; omega)) ?_
       refine need_by (by first | assumption | omega | (simp; done) | (simp; omega)) ?_
       (apply vyl_f (hy77); (case hf => rfl); (case hq => (simp only [vm, reduceIte, Nat.reduceEqDiff, reduceCtorEq]; rfl)); (case hi => rfl); (case hvs => rfl))
       rotate_left
       simp only [vm, vr, reduceIte, Nat.reduceEqDiff, reduceCtorEq]
       (refine hK _ ?_; clear hK K)
       refine vcode_if _ rfl (fun hb4 => ?_) (fun hb4 => ?_) <;> (have hp4 := hb4; try simp only [] at hp4)
       cases hb4
       refine c_skip1 ?_
       simp only [thenV_n, blockV_n]
       refine c_reg1 fun K hK => ?_
       simp only [vm, vr, reduceIte, Nat.reduceEqDiff, reduceCtorEq]
       (simp (disch := omega) only [wr64]; try simp only [vm, vr, vt, vp, q77, mapf, z1, wb, hb1, hb2, hb3, hb4, Int.reduceBNe, Int.reduceBEq, Int.reduceLT, Int.reduceLE, Int.reduceGT, Int.reduceGE, decide_true, decide_false, bne_self_eq_false, beq_self_eq_true, reduceIte, Nat.reduceEqDiff, Nat.reduceAdd, Nat.reduceLeDiff, Nat.reduceMul, Nat.reduceLT, reduceCtorEq])
       (refine hK _ ?_; clear hK K)
       simp only [thenV_n]
       rotate_left
       simp only [vm, vr, reduceIte, Nat.reduceEqDiff, reduceCtorEq]
       (refine hK _ ?_; clear hK K)
       refine vcode_if _ rfl (fun hb5 => ?_) (fun hb5 => ?_) <;> (have hp5 := hb5; try simp only [] at hp5)
       refine c_reg fun K hK => ?_
       simp only [vm, vr]
       (refine hK _ ?_; clear hK K)
       refine c_ret1 ?_
       simp only [thenV_r, blockV_r]
       simp only [vm, vr, reduceIte, Nat.reduceEqDiff, reduceCtorEq]
       rotate_left
       cases hb5
       cases hb3
       all_goals first
        | exact ut
        | exact .inr trivial
        | (refine ⟨2, ?_, by omega, by omega⟩; ((show Wk _ _ _; simp only [vm, vr, midG, mid_two, vmk, reduceIte, Nat.reduceEqDiff, reduceCtorEq]; (try simp (disch := omega) only [wr64]); try omega)); (all_goals (first | exact ⟨rfl, rfl⟩ | (simp only [List.length_append, Nat.add_assoc]; first | done | exact ⟨rfl, trivial⟩))))
      | 2, _ =>
       have z2 : ((2 : Nat) : Int) = 2 := rfl
       refine c_reg fun K hK => ?_
       simp only [vm, vr, z2, midG, Int.reduceLT, decide_false, reduceIte, Nat.reduceEqDiff, reduceCtorEq]
       (refine hK _ ?_; clear hK K)
       refine c_if _ rfl (fun hb3 => ?_) (fun hb3 => ?_) <;> (have hp3 := hb3; try simp only [] at hp3)
       cases hb3
       refine c_exit ?_
       simp only [thenV_n, thenV_e, blockV_n, blockV_e, reduceIte, Nat.reduceEqDiff]
       refine c_reg1 fun K hK => ?_
       simp only [vm, vr, reduceIte, Nat.reduceEqDiff, reduceCtorEq]
       (simp (disch := omega) only [wr64]; try simp only [vm, vr, vt, vp, q77, mapf, z2, midG, hb1, hb2, hb3, Int.reduceBNe, Int.reduceBEq, Int.reduceLT, Int.reduceLE, Int.reduceGT, Int.reduceGE, decide_true, decide_false, bne_self_eq_false, beq_self_eq_true, reduceIte, Nat.reduceEqDiff, Nat.reduceAdd, Nat.reduceLeDiff, Nat.reduceMul, Nat.reduceLT, reduceCtorEq])
       (refine hK _ ?_; clear hK K)
       simp only [thenV_n]
       refine ⟨j + 1, ?_, by omega, by omega⟩
       ((show Wk _ _ _; simp only [vm, vr, vmk, reduceIte, Nat.reduceEqDiff, reduceCtorEq]; (try simp (disch := omega) only [wr64]); try omega))
    ·
     have kl : decide (((n - d + j : Nat) : Int) < (n : Int)) = false := decide_eq_false (by omega)
     obtain rfl : j = d := by omega
     rw [preG_all (by omega)]
     refine c_assoc ?_
     refine c_reg fun K hK => ?_
     simp only [vm, vr, kl, reduceIte, Nat.reduceEqDiff, reduceCtorEq]
     (refine hK _ ?_; clear hK K)
     refine c_if _ rfl (fun hb2 => ?_) (fun hb2 => ?_) <;> (have hp2 := hb2; try simp only [] at hp2)
     cases hb2
     refine c_exit ?_
     simp only [thenV_n, thenV_e, blockV_e, reduceIte]
     refine c_reg fun K hK => ?_
     simp only [vm, vr]
     (refine hK _ ?_; clear hK K)
     refine c_ret1 ?_
     simp only [vm, vr, reduceIte, Nat.reduceEqDiff, reduceCtorEq]
     all_goals exact .inl trivial
theorem specy77 (n size : Nat) (h4 : n ≤ 4) : SpecY Tryz.prog Γ0 false 77 (fun l => [fsV [], nn 0, nn n, nn size, .yld l]) ((grwL n size n []).map fun G => [fsV G]) := by
 have h := grow_ok n size h4 n [] (by simp)
 rw [Nat.sub_self] at h
 exact h
theorem speci76 (n size : Nat) (h4 : n ≤ 4) : SpecI Tryz.prog Γ0 76 [.ref [nn n], .ref [nn size]] ((grwL n size n []).map fun G => [fsV G]) := by
 have hy77 : SpecY Tryz.prog Γ0 false 77 (fun l => [.sl [], nn 0, nn n, nn size, .yld l]) ((grwL n size n []).map fun G => [fsV G]) := specy77 n size h4
 refine specI_of mixed (fun _ _ _ h => h) Tryz.func76 (by decide +kernel) rfl rfl rfl (by simp [Tryz.f76]) (by decide +kernel) fun l => ?_; simp only [argsG, Nat.zero_add, Nat.reduceAdd]
 refine c_yreg1 _ _ _ (ysplit 3 rfl) fun K hK => ?_
 simp only [vm, vr, q76, reduceIte, Nat.reduceEqDiff, Nat.reduceAdd, reduceCtorEq]
 (apply vyl_f (hy77); (case hf => rfl); (case hq => (simp only [vm, reduceIte, Nat.reduceEqDiff, reduceCtorEq]; rfl)); (case hi => rfl); (case hvs => rfl))
 rotate_left
 (refine hK _ ?_; clear hK K)
 simp only [vm, vr, reduceIte, reduceCtorEq]
 rotate_left
 (refine hK _ ?_; clear hK K)
 simp only [vm, vr, reduceIte, reduceCtorEq]
 rotate_left
 all_goals first | exact .inl trivial | exact .inr trivial | exact fun k z h => ⟨rfl, by rw [Nat.zero_add]; exact h⟩
theorem spec47 (n size : Nat) : Sp0 47 [nn n, nn size] (R.v (.fn 76 [] [.ref [nn n], .ref [nn size]])) := by
 refine spec_of mixed (fun _ _ _ h => h) Tryz.func47 (by decide +kernel) rfl (rs := _) rfl (by rfl) rfl (by simp [Tryz.f47]) (by decide +kernel) ?_; simp only [argsG, Nat.zero_add]
 refine c_reg fun K hK => ?_
 simp only [vm, vr, reduceIte, Nat.reduceEqDiff, reduceCtorEq]
 refine need_by (by first | assumption | omega | (simp; done) | (simp; omega)) ?_
 refine need_by (by first | assumption | omega | (simp; done) | (simp; omega)) ?_
 (refine hK _ ?_; clear hK K)
 refine c_reg fun K hK => ?_
 simp only [vm, vr, reduceIte, Nat.reduceEqDiff, reduceCtorEq]
 (refine hK _ ?_; clear hK K)
 refine c_ret1 ?_
 simp only [vm, vr, reduceIte, Nat.reduceEqDiff, reduceCtorEq]
end Go.Vm
