import Derived.Test.YtfmkfaohhpmpaaaGreatDoorVmBC
import Derived.Test.YtfmkfaohhpmpaaaGreatDoorWcP
import Derived.Test.YtfmkfaohhpmpaaaGreatDoorVmBE
set_option linter.all false
namespace Go.Vm
open Go.Proofs
set_option maxRecDepth 20000
set_option maxHeartbeats 8000000
--DEF GR = 76
--DEF CC = 34
/-! slices.Grow of nil, slices.Concat of lists of numbers -/
abbrev lsV (l : List Int) : V := .sl (l.map nn)
theorem mapls {P : List (List Int)} : (∀ y, y ∈ List.map lsV P → y.cells.length = 1) = True := by
 simp only [List.mem_map, eq_iff_iff, iff_true]; rintro y ⟨a, _, rfl⟩; rfl
theorem isIntI : isIntT Tryz.prog 3 = true := by decide +kernel
theorem subZ {n : Int} : n - (0 - 0) = n := by omega
theorem grow_win (n : Nat) (h0 : 0 < n) (hn : n < 1000000) : Spec Tryz.prog (winΓ Γ0) 76 [nilV, nn n] (.one (.c (.arr 3 1 []))) := by
 have k1 : decide ((n : Int) < 0) = false := decide_eq_false (by omega)
 have k2 : decide ((n : Int) > 0) = true := decide_eq_true (by omega)
 refine spec_of_n mixed (fun _ _ _ h => h) Tryz.func76 (by decide +kernel) rfl (rs := _) rfl rfl rfl (by simp [Tryz.f76]) (by decide +kernel) ?_
 simp only [argsL, List.map_cons, List.map_nil]
 refine c_reg fun K hK => ?_
 simp only [vm]
 (refine hK _ ?_; clear hK K)
 refine c_assoc ?_
 refine c_reg fun K hK => ?_
 simp only [vm, k1, reduceIte, Nat.reduceEqDiff, reduceCtorEq]
 (refine hK _ ?_; clear hK K)
 refine c_if _ rfl (fun hb1 => ?_) (fun hb1 => ?_) <;> (have hp1 := hb1; try simp only [] at hp1)
 cases hb1
 refine c_skip ?_
 refine c_assoc ?_
 refine c_reg fun K hK => ?_
 simp only [vm, q76, s_cap, reduceIte, Nat.reduceEqDiff, reduceCtorEq]
 (simp (disch := omega) only [wr64]; try simp only [subZ])
 (refine hK _ ?_; clear hK K)
 refine c_assoc ?_
 refine c_reg fun K hK => ?_
 simp only [vm, k2, reduceIte, Nat.reduceEqDiff, reduceCtorEq]
 (refine hK _ ?_; clear hK K)
 refine c_if _ rfl (fun hb2 => ?_) (fun hb2 => ?_) <;> (have hp2 := hb2; try simp only [] at hp2)
 refine c_reg fun K hK => ?_
 simp only [vm, vr, vp, q76, s_cap, winM_t, vsl_t, vsliceW.eq_1, vsliceW.eq_2, vappZ.eq_1, isIntI, fil_0, Int.reduceLE, reduceIte, Nat.reduceEqDiff, Nat.reduceAdd, reduceCtorEq]
 refine need_by (by first | assumption | omega | (simp; done) | (simp; omega)) ?_
 refine need_by (by first | assumption | omega | (simp; done) | (simp; omega)) ?_
 refine need_by (by first | assumption | omega | (simp; done) | (simp; omega)) ?_
 (refine hK _ ?_; clear hK K)
 refine c_reg fun K hK => ?_
 simp only [vm, vr, reduceIte, Nat.reduceEqDiff, reduceCtorEq]
 (refine hK _ ?_; clear hK K)
 refine c_ret1 ?_
 simp only [vm, vr, reduceIte, Nat.reduceEqDiff, reduceCtorEq]
 exact ⟨_, rfl, rfl⟩
 cases hb2
theorem grow_win0 : Spec Tryz.prog (winΓ Γ0) 76 [nilV, nn 0] (.one (.c .nilS)) := by
 refine spec_of_n mixed (fun _ _ _ h => h) Tryz.func76 (by decide +kernel) rfl (rs := _) rfl rfl rfl (by simp [Tryz.f76]) (by decide +kernel) ?_
 simp only [argsL, List.map_cons, List.map_nil]
 refine c_reg fun K hK => ?_
 simp only [vm]
 (refine hK _ ?_; clear hK K)
 refine c_assoc ?_
 refine c_reg fun K hK => ?_
 simp only [vm, Int.reduceLT, decide_false, reduceIte, Nat.reduceEqDiff, reduceCtorEq]
 (refine hK _ ?_; clear hK K)
 refine c_if _ rfl (fun hb1 => ?_) (fun hb1 => ?_) <;> (have hp1 := hb1; try simp only [] at hp1)
 cases hb1
 refine c_skip ?_
 refine c_assoc ?_
 refine c_reg fun K hK => ?_
 simp only [vm, q76, s_cap, reduceIte, Nat.reduceEqDiff, reduceCtorEq]
 (simp (disch := omega) only [wr64]; try simp only [subZ])
 (refine hK _ ?_; clear hK K)
 refine c_assoc ?_
 refine c_reg fun K hK => ?_
 simp only [vm, Int.reduceGT, decide_false, reduceIte, Nat.reduceEqDiff, reduceCtorEq]
 (refine hK _ ?_; clear hK K)
 refine c_if _ rfl (fun hb2 => ?_) (fun hb2 => ?_) <;> (have hp2 := hb2; try simp only [] at hp2)
 cases hb2
 refine c_skip ?_
 refine c_reg fun K hK => ?_
 simp only [vm, reduceIte, Nat.reduceEqDiff, reduceCtorEq]
 (refine hK _ ?_; clear hK K)
 refine c_ret1 ?_
 simp only [vm, vr, reduceIte, Nat.reduceEqDiff, reduceCtorEq]
 exact ⟨_, rfl, rfl⟩
theorem spec76 (n : Nat) (hn : n < 1000000) : Sp0 76 [nilV, nn n] (.one (.c (.arr 3 1 []))) := by
 by_cases h : n = 0
 ·
  subst h; exact spec_nil_arr (by omega) (spec_win grow_win0)
 ·
  exact spec_win (grow_win n (by omega) hn)
theorem flat_take {P : List (List Int)} {i : Nat} (h : i < P.length) : (P.take (i + 1)).flatten = (P.take i).flatten ++ P.getD i default := by rw [takeS default h, List.flatten_append]; simp
theorem flat_le {P : List (List Int)} {i : Nat} : (P.take i).flatten.length ≤ P.flatten.length := by
 conv => rhs; rw [← List.take_append_drop i P]
 rw [List.flatten_append, List.length_append]; omega
theorem spec34 (P : List (List Int)) (hl : P.length < 1000000) (hp : P.flatten.length < 1000000) : Sp0 34 [.sl (P.map lsV)] (.one (.c (.arr 3 1 (P.flatten.map nn)))) := by
 refine spec_of_x mixed (fun _ _ _ h => h) Tryz.func34 (by decide +kernel) rfl (rs := _) rfl (by rfl) rfl (by simp [Tryz.f34]) (by decide +kernel) ?_; simp only [argsG]
 refine c_reg fun K hK => ?_
 simp only [vm]
 (refine hK _ ?_; clear hK K)
 refine c_reg fun K hK => ?_
 simp only [vm]
 (refine hK _ ?_; clear hK K)
 refine c_assoc ?_
 refine c_reg fun K hK => ?_
 simp only [vm, q34, reduceIte, Nat.reduceEqDiff, reduceCtorEq]
 (refine hK _ ?_; clear hK K)
 refine c_block ?_
 refine vcode_loop (fun i : Nat => [(0, L.p (V.sl (List.map lsV P))), (2, L.nilS), (3, L.p (nn (((P.take i).flatten.length : Nat) : Int))), (9, L.p (V.sl (List.map lsV P))), (10, L.p (nn P.length)), (11, L.p (nn i))]) (fun _ => []) (fun i => i ≤ P.length) (fun i => P.length - i) 0 (Nat.zero_le _) ?_ ?_
 ·
  (simp only [vm, vr, vmk, reduceIte, Nat.reduceEqDiff, reduceCtorEq]; try simp (disch := omega) only [wr64]; try omega)
  rfl
 ·
  intro i hi
  have hle := flat_le (P := P) (i := i)
  rcases Nat.lt_or_ge i P.length with hil | hil
  ·
   have kl : decide ((i : Int) < (P.length : Int)) = true := decide_eq_true (by omega)
   have hfl := congrArg List.length (flat_take hil)
   rw [List.length_append] at hfl
   have hle2 := flat_le (P := P) (i := i + 1)
   have w1 : IntKind.wrap .i64 (((P.take i).flatten.length : Int) + ((P.getD i default).length : Int)) = (((P.take (i + 1)).flatten.length : Nat) : Int) := by rw [wr64 (by omega) (by omega), hfl]; omega
   have k2 : decide ((((P.take (i + 1)).flatten.length : Nat) : Int) < 0) = false := decide_eq_false (by omega)
   refine c_reg fun K hK => ?_
   simp only [vm, kl, reduceIte, Nat.reduceEqDiff, reduceCtorEq]
   (refine hK _ ?_; clear hK K)
   refine c_if _ rfl (fun hb1 => ?_) (fun hb1 => ?_) <;> (have hp1 := hb1; try simp only [] at hp1)
   refine c_skip ?_
   refine c_block ?_
   refine c_reg fun K hK => ?_
   simp only [vm, vr, q34, reduceIte, Nat.reduceEqDiff, reduceCtorEq]
   (refine atI_map default (by first | assumption | omega | (simp; done) | (simp; omega)) (by first | assumption | omega | (simp; done) | (simp; omega)) ?_; simp only [vm, vr, q34])
   (refine hK _ ?_; clear hK K)
   refine c_reg fun K hK => ?_
   simp only [vm, q34, w1, reduceIte, Nat.reduceEqDiff, reduceCtorEq]
   (refine hK _ ?_; clear hK K)
   refine c_reg fun K hK => ?_
   simp only [vm, k2, reduceIte, Nat.reduceEqDiff, reduceCtorEq]
   (refine hK _ ?_; clear hK K)
   refine vcode_if _ rfl (fun hb2 => ?_) (fun hb2 => ?_) <;> (have hp2 := hb2; try simp only [] at hp2)
   cases hb2
   refine c_skip1 ?_
   simp only [thenV_n, blockV_n]
   refine c_reg1 fun K hK => ?_
   simp only [vm, reduceIte, Nat.reduceEqDiff, reduceCtorEq]
   (simp (disch := omega) only [wr64]; try simp only [vm, vr, vt, vp, q34, mapls, kl, w1, k2, hb1, hb2, Int.reduceBNe, Int.reduceBEq, Int.reduceLT, Int.reduceLE, Int.reduceGT, Int.reduceGE, decide_true, decide_false, bne_self_eq_false, beq_self_eq_true, reduceIte, Nat.reduceEqDiff, Nat.reduceAdd, Nat.reduceLeDiff, Nat.reduceMul, Nat.reduceLT, reduceCtorEq])
   (refine hK _ ?_; clear hK K)
   simp only [thenV_n]
   rotate_left
   cases hb1
   refine ⟨i + 1, ?_, by omega, by omega⟩
   ((show Wk _ _ _; simp only [vm, vmk, reduceIte, Nat.reduceEqDiff, reduceCtorEq]; (try simp (disch := omega) only [wr64]); try omega))
  ·
   have kl : decide ((i : Int) < (P.length : Int)) = false := decide_eq_false (by omega)
   rw [List.take_of_length_le hil] at hle ⊢
   have hs76 := spec76 P.flatten.length hp
   refine c_reg fun K hK => ?_
   simp only [vm, kl, reduceIte, Nat.reduceEqDiff, reduceCtorEq]
   (refine hK _ ?_; clear hK K)
   refine c_if _ rfl (fun hb1 => ?_) (fun hb1 => ?_) <;> (have hp1 := hb1; try simp only [] at hp1)
   cases hb1
   refine c_exit ?_
   simp only [thenV_n, thenV_e, blockV_e, reduceIte]
   refine c_reg fun K hK => ?_
   simp only [vm, reduceIte, Nat.reduceEqDiff, reduceCtorEq]
   (apply s_calln (hs76); (case hf => rfl); (case ha => (simp only [vm, reduceIte, Nat.reduceEqDiff, reduceCtorEq]; rfl)); (case hq => (simp only [vm]; rfl)); (case ho => rfl); (case hvs => rfl); (case hL => (simp only [vm, R.toL, R1.toL, RC.toL, siteN, reduceIte, Nat.reduceAdd, Nat.reduceMul]; rfl)); (case hfr => (simp only [vm, vr]; try rfl)))
   simp only [vm, vr, reduceIte, Nat.reduceEqDiff, reduceCtorEq]
   (refine hK _ ?_; clear hK K)
   refine c_assoc ?_
   refine c_reg fun K hK => ?_
   simp only [vm, vr, q34, reduceIte, Nat.reduceEqDiff, reduceCtorEq]
   (refine hK _ ?_; clear hK K)
   refine c_block ?_
   refine vcode_loop (fun i : Nat => [(2, L.nilS), (6, L.arr 24 0), (25, L.p (V.sl (List.map lsV P))), (26, L.p (nn P.length)), (27, L.p (nn i))]) (fun i => [(Key.a 24, M.arr 0 3 1 ((P.take i).flatten.map nn))]) (fun i => i ≤ P.length) (fun i => P.length - i) 0 (Nat.zero_le _) ?_ ?_
   ·
    (simp only [vm, vr, vmk, reduceIte, Nat.reduceEqDiff, reduceCtorEq]; try simp (disch := omega) only [wr64]; try omega)
    rfl
    all_goals (repeat' first | exact ⟨_, rfl⟩ | exact Or.inr trivial | omega | (simp; done) | rfl | apply And.intro)
   ·
    intro i hi
    have hle := flat_le (P := P) (i := i)
    rcases Nat.lt_or_ge i P.length with hil | hil
    ·
     have kl : decide ((i : Int) < (P.length : Int)) = true := decide_eq_true (by omega)
     have hfl := flat_take hil
     have hfl2 := congrArg List.length hfl
     rw [List.length_append] at hfl2
     have hle2 := flat_le (P := P) (i := i + 1)
     refine c_reg fun K hK => ?_
     simp only [vm, vr, kl, reduceIte, Nat.reduceEqDiff]
     (refine hK _ ?_; clear hK K)
     refine c_if _ rfl (fun hb2 => ?_) (fun hb2 => ?_) <;> (have hp2 := hb2; try simp only [] at hp2)
     refine c_skip ?_
     refine c_block ?_
     refine c_reg fun K hK => ?_
     simp only [vm, vr, q34, reduceIte, Nat.reduceEqDiff]
     (refine atI_map default (by first | assumption | omega | (simp; done) | (simp; omega)) (by first | assumption | omega | (simp; done) | (simp; omega)) ?_; simp only [vm, vr, q34])
     (refine hK _ ?_; clear hK K)
     refine c_reg1 fun K hK => ?_
     simp only [vm, vr, vp, q34, reduceIte, Nat.reduceEqDiff, Nat.reduceAdd]
     refine need_by (by first | assumption | omega | (simp; done) | (simp; omega)) ?_
     (refine hK _ ?_; clear hK K)
     simp only [thenV_n, blockV_n]
     refine c_reg1 fun K hK => ?_
     simp only [vm, vr, reduceIte, Nat.reduceEqDiff]
     (simp (disch := omega) only [wr64]; try simp only [vm, vr, vt, vp, q34, mapls, kl, hb1, hb2, Int.reduceBNe, Int.reduceBEq, Int.reduceLT, Int.reduceLE, Int.reduceGT, Int.reduceGE, decide_true, decide_false, bne_self_eq_false, beq_self_eq_true, reduceIte, Nat.reduceEqDiff, Nat.reduceAdd, Nat.reduceLeDiff, Nat.reduceMul, Nat.reduceLT, reduceCtorEq])
     (refine hK _ ?_; clear hK K)
     simp only [thenV_n]
     rotate_left
     cases hb2
     refine ⟨i + 1, ?_, by omega, by omega⟩
     rw [hfl, List.map_append]
     ((show Wk _ _ _; simp only [vm, vp, vmk, reduceIte, Nat.reduceEqDiff, reduceCtorEq]; (try simp (disch := omega) only [wr64]); try omega))
     all_goals (repeat' first | exact ⟨_, rfl⟩ | exact Or.inr trivial | omega | (simp; done) | rfl | apply And.intro)
    ·
     have kl : decide ((i : Int) < (P.length : Int)) = false := decide_eq_false (by omega)
     rw [List.take_of_length_le hil]
     refine c_reg fun K hK => ?_
     simp only [vm, vr, kl, reduceIte, Nat.reduceEqDiff]
     (refine hK _ ?_; clear hK K)
     refine c_if _ rfl (fun hb2 => ?_) (fun hb2 => ?_) <;> (have hp2 := hb2; try simp only [] at hp2)
     cases hb2
     refine c_exit ?_
     simp only [thenV_n, thenV_e, blockV_e, reduceIte]
     refine c_reg fun K hK => ?_
     simp only [vm, vr, reduceIte, Nat.reduceEqDiff]
     (refine hK _ ?_; clear hK K)
     refine c_ret1 ?_
     simp only [vm, vr, reduceIte, Nat.reduceEqDiff]
     exact ⟨_, rfl, rfl⟩
end Go.Vm
