import Derived.Test.YteegjkaoihcebaaGreatDoorVmBC
import Derived.Test.YteegjkaoihcebaaGreatDoorWpSz
set_option linter.all false
namespace Go.Vm
open Go.Proofs
open Nat renaming reduceEqDiff → rE, reduceAdd → rA, reduceLeDiff → rL, reduceLT → rT, reduceMul → rM
set_option maxRecDepth 20000
set_option maxHeartbeats 8000000
--DEF RUL = nn r.width; nn r.start; nn r.finish; nn r.hlo; nn r.hhi; nn r.cold; V.sl (r.stands.map stdV); nn r.slo; nn r.shi; nn r.flo; nn r.fhi
--DEF Q = q77
theorem spec77 (r : PRules) (s : PSched) (hl : r.stands.length < 1000000) (hn : s.name.size < 1000000) (hs : s.ths.length < 1000000) : Sp0 77 [rulV r, schV s] (R.v2 (nn (bothE r s).1) (nn (bothE r s).2)) := by
 have kH : firstV [if nameV s.name = true then 0 else 4, if ((s.ths.length : Int) == (r.stands.length : Int)) = true then 0 else 10] = schH r s := by
  unfold schH; congr 3
 refine spec_of mixed (fun _ _ _ h => h) Tryz.func77 (by decide +kernel) rfl (rs := _) rfl (by rfl) rfl (by simp [Tryz.f77]) (by decide +kernel) ?_; simp only [argsG, Nat.zero_add]
 refine c_reg fun K hK => ?_
 simp only [vx, reduceIte, rE, rA, reduceCtorEq]
 refine nb ?_
 refine nb ?_
 apply hK; clear hK K
 refine c_assoc ?_
 refine c_reg fun K hK => ?_
 simp only [vx, q77, reduceIte, rE, rA, rL, reduceCtorEq]
 (apply s_call2 (spec90 _ ?ya); (case hf => rfl); (case hq => (simp only [vm, reduceIte, rE, reduceCtorEq]; rfl)); (case hvs => rfl); (case ya => first | assumption | omega | (simp <;> omega)))
 simp only [vx, reduceIte, rE, reduceCtorEq]
 apply hK; clear hK K
 refine c_assoc ?_
 refine c_reg fun K hK => ?_
 simp only [vx, reduceIte, rE, reduceCtorEq]
 apply hK; clear hK K
 refine c_if _ rfl (fun hb1 => ?_) (fun hb1 => ?_) <;> (have hp1 := hb1; try simp only [bne_iff_ne, bne_eq_false_iff_eq] at hp1)
 refine c_assoc ?_
 refine c_reg fun K hK => ?_
 simp only [vx, hb1, reduceIte, rE, reduceCtorEq]
 apply hK; clear hK K
 refine c_ret ?_
 simp only [vx, reduceIte, rE, reduceCtorEq]
 rotate_left
 refine c_skip ?_
 refine c_assoc ?_
 refine c_draw fun K hK => ?_
 simp only [vx, q77, hb1, reduceIte, rE, rL, reduceCtorEq]
 (apply d_call (spec100 _ ?yb); (case hf => rfl); (case hq => (simp only [vm, reduceIte, rE, reduceCtorEq]; rfl)); (case hvs => rfl); (case yb => first | assumption | omega | (simp <;> omega)))
 (apply d_call (spec66 _ _); (case hf => rfl); (case hq => (simp only [vx, reduceIte, rE, reduceCtorEq]; rfl)); (case hvs => rfl))
 simp only [vx, q77, reduceIte, rE, rA, rL, reduceCtorEq]
 (apply d_call (spec66 _ _); (case hf => rfl); (case hq => (simp only [vm, reduceIte, rE, reduceCtorEq]; rfl)); (case hvs => rfl))
 simp only [vx, q77, reduceIte, rE, rA, rL, rM, reduceCtorEq]
 refine nb ?_
 (apply d_call (spec65w2 _ _); (case hf => rfl); (case hq => (simp only [vm, reduceIte, rE, reduceCtorEq]; rfl)); (case hvs => rfl))
 simp only [vx, kH, reduceIte, rE, reduceCtorEq]
 (refine draw_ok (by decide +kernel) (hK _ ?_); clear hK; clear K)
 refine c_assoc ?_
 refine c_reg fun K hK => ?_
 simp only [vx, reduceIte, rE, reduceCtorEq]
 apply hK; clear hK K
 refine c_if _ rfl (fun hb2 => ?_) (fun hb2 => ?_) <;> (have hp2 := hb2; try simp only [bne_iff_ne, bne_eq_false_iff_eq] at hp2)
 refine c_assoc ?_
 refine c_reg fun K hK => ?_
 simp only [vx, hb2, reduceIte, rE, reduceCtorEq]
 apply hK; clear hK K
 refine c_ret ?_
 simp only [vx, reduceIte, rE, reduceCtorEq]
 rotate_left
 refine c_skip ?_
 refine c_reg fun K hK => ?_
 simp only [vx, q77, hb2, reduceIte, rE, rA, rL, reduceCtorEq]
 apply hK; clear hK K
 refine c_assoc ?_
 refine c_reg fun K hK => ?_
 simp only [vx, q77, reduceIte, rE, rA, rL, reduceCtorEq]
 apply hK; clear hK K
 refine c_block ?_
 rotate_left
 ·
  rw [bothE1 hp1]
 ·
  rw [bothE0 hp1, schE1 hp2]
 rw [bothE0 hp1, schE0 hp2]
 have hlen := schH_len hp2
 refine vcode_loop (fun x : Nat × Int => [(2, L.own 2 0), (4, L.p (nn 0)), (5, L.p (nn 0)), (3, L.own 3 0), (9, L.p (nn x.2)), (41, L.p (V.sl (List.map nn s.ths))), (42, L.p (V.i IntKind.i64 ↑s.ths.length)), (43, L.p (nn x.1))]) (fun _ => [(Key.b 2, M.box 11), (Key.c 2 0, M.cell (L.p (nn r.width))), (Key.c 2 1, M.cell (L.p (nn r.start))), (Key.c 2 2, M.cell (L.p (nn r.finish))), (Key.c 2 3, M.cell (L.p (nn r.hlo))), (Key.c 2 4, M.cell (L.p (nn r.hhi))), (Key.c 2 5, M.cell (L.p (nn r.cold))), (Key.c 2 6, M.cell (L.p (V.sl (r.stands.map stdV)))), (Key.c 2 7, M.cell (L.p (nn r.slo))), (Key.c 2 8, M.cell (L.p (nn r.shi))), (Key.c 2 9, M.cell (L.p (nn r.flo))), (Key.c 2 10, M.cell (L.p (nn r.fhi))), (Key.b 3, M.box 2), (Key.c 3 0, M.cell (L.p (V.s s.name))), (Key.c 3 1, M.cell (L.p (V.sl (s.ths.map nn))))]) (fun x => x.1 ≤ s.ths.length ∧ thsE r.finish 0 r.start s.ths = thsE r.finish x.1 x.2 (s.ths.drop x.1)) (fun x => s.ths.length - x.1) (0, r.start) ⟨Nat.zero_le _, by simp⟩ ?_ ?_
 ·
  simp only [vm, vmk, reduceIte, rE, rA, rT, reduceCtorEq]
 ·
  rintro ⟨i, last⟩ ⟨hi, hf⟩
  simp only at hi hf ⊢
  rcases Nat.lt_or_ge i s.ths.length with hil | hil
  ·
   have hst := ths_step (fin := r.finish) (last := last) hil
   have kl : decide ((i : Int) < (s.ths.length : Int)) = true := decide_eq_true (by omega)
   have kT : firstV [if withinV (s.ths.getD i 0) 1 1000 = true then 0 else 2, if decide (s.ths.getD i 0 ≤ last) = true then 0 else 9] = thE last (s.ths.getD i 0) := rfl
   generalize thE last (s.ths.getD i 0) = E at *
   refine c_reg fun K hK => ?_
   simp only [vx, kl, reduceIte, rE]
   apply hK; clear hK K
   refine c_if _ rfl (fun hb3 => ?_) (fun hb3 => ?_)
   refine c_skip ?_
   refine c_block ?_
   refine c_reg fun K hK => ?_
   simp only [vx, q77, reduceIte, rE]
   (refine atI_map 0 (by first | assumption | omega | (simp <;> omega)) (by first | assumption | omega | (simp <;> omega)) ?_; simp only [vx, q77])
   apply hK; clear hK K
   refine c_assoc ?_
   refine c_reg fun K hK => ?_
   simp only [vx, reduceIte, rE]
   (apply s_call (spec91 _); (case hf => rfl); (case hq => (simp only [vm, reduceIte, rE]; rfl)); (case hvs => rfl))
   (apply s_call (spec66 _ _); (case hf => rfl); (case hq => (simp only [vx, reduceIte, rE]; rfl)); (case hvs => rfl))
   simp only [vx, reduceIte, rE]
   (apply s_call (spec66 _ _); (case hf => rfl); (case hq => (simp only [vm, reduceIte, rE]; rfl)); (case hvs => rfl))
   simp only [vx, q77, reduceIte, rE, rA, rL, rM, reduceCtorEq]
   refine nb ?_
   (apply s_call (spec65w2 _ _); (case hf => rfl); (case hq => (simp only [vm, reduceIte, rE, reduceCtorEq]; rfl)); (case hvs => rfl))
   simp only [vx, kT, reduceIte, rE]
   apply hK; clear hK K
   refine c_assoc ?_
   refine c_reg fun K hK => ?_
   simp only [vx, reduceIte, rE]
   apply hK; clear hK K
   refine c_if _ rfl (fun hb4 => ?_) (fun hb4 => ?_) <;> (have hp4 := hb4; try simp only [bne_iff_ne, bne_eq_false_iff_eq] at hp4)
   refine c_assoc ?_
   refine c_reg fun K hK => ?_
   simp only [vx, hb4, reduceIte, rE]
   apply hK; clear hK K
   refine c_ret ?_
   simp only [thenV_r, blockV_r]
   simp only [vx, reduceIte, rE]
   rotate_left
   refine c_skip ?_
   refine c_reg1 fun K hK => ?_
   simp only [vx, hb4, reduceIte, rE]
   apply hK; clear hK K
   simp only [thenV_n, blockV_n]
   refine c_reg1 fun K hK => ?_
   simp only [vx, reduceIte, rE]
   (simp (disch := omega) only [wr64]; try simp only [vx, vt, vp, q77, mapstd, kl, kT, hb1, hb2, hb3, hb4, Int.reduceBNe, Int.reduceBEq, Int.reduceLT, Int.reduceLE, Int.reduceGT, Int.reduceGE, decide_true, decide_false, bne_self_eq_false, beq_self_eq_true, reduceIte, rE, rA, rL, rM, rT, reduceCtorEq])
   apply hK; clear hK K
   simp only [thenV_n]
   rotate_left
   cases hb3
   ·
    rw [hf, hst, if_neg hp4]
   ·
    refine ⟨(i + 1, s.ths.getD i 0), ?_, ⟨by omega, by rw [hf, hst, if_pos hp4]⟩, by simp only; omega⟩
    ((show Wk _ _ _; simp only [vm, vmk, reduceIte, rE, rA, rT, reduceCtorEq]; (try simp (disch := omega) only [wr64]); try omega)) <;> omega
  ·
   have kl : decide ((i : Int) < (s.ths.length : Int)) = false := decide_eq_false_iff_not.2 (by omega)
   have hie : i = s.ths.length := by omega
   refine c_reg fun K hK => ?_
   simp only [vx, kl, reduceIte, rE]
   apply hK; clear hK K
   refine c_if _ rfl (fun hb3 => ?_) (fun hb3 => ?_)
   cases hb3
   refine c_exit ?_
   simp only [thenV_n, thenV_e, blockV_e, reduceIte]
   refine c_assoc ?_
   refine c_reg fun K hK => ?_
   simp only [vx, q77, reduceIte, rE, rA, rL, reduceCtorEq]
   apply hK; clear hK K
   refine c_if _ rfl (fun hb4 => ?_) (fun hb4 => ?_) <;> (have hp4 := hb4; try simp only [bne_iff_ne, bne_eq_false_iff_eq] at hp4)
   refine c_assoc ?_
   refine c_reg fun K hK => ?_
   simp only [vx, q77, hb4, reduceIte, rE, rA, rL, reduceCtorEq]
   (simp (disch := omega) only [wr64]; try simp only [vx, vt, vp, q77, mapstd, kl, hb1, hb2, hb3, hb4, Int.reduceBNe, Int.reduceBEq, Int.reduceLT, Int.reduceLE, Int.reduceGT, Int.reduceGE, decide_true, decide_false, bne_self_eq_false, beq_self_eq_true, reduceIte, rE, rA, rL, rM, rT, reduceCtorEq])
   apply hK; clear hK K
   refine c_ret ?_
   simp only [vx, reduceIte, rE]
   rotate_left
   refine c_skip ?_
   refine c_reg fun K hK => ?_
   simp only [vx, hb4]
   apply hK; clear hK K
   refine c_ret1 ?_
   simp only [vx, reduceIte, rE]
   rotate_left
   ·
    rw [hf, ths_end hil, if_neg hp4, hie]
   ·
    rw [hf, ths_end hil, if_pos hp4]
end Go.Vm
