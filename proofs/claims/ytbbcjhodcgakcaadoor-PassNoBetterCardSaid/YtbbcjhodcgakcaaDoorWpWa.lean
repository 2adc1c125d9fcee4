import Derived.Test.YtbbcjhodcgakcaaDoorVmBC
import Derived.Test.YtbbcjhodcgakcaaDoorWpF
import Derived.Test.YtbbcjhodcgakcaaDoorVmBE
set_option linter.all false
namespace Go.Vm
open Go.Proofs
open Nat renaming reduceEqDiff → rE, reduceAdd → rA, reduceLeDiff → rL, reduceLT → rT, reduceMul → rM
set_option maxRecDepth 20000
set_option maxHeartbeats 8000000
theorem isNil_em {σ : VS} {b : Bool} : isNil σ (.em b) = some b := rfl
theorem conts_em {σ : VS} {b : Bool} : conts σ (.em b) = some ([], []) := rfl
theorem spec97w2 : Sp0 97 [.sl []] (.one (.c (.arr 3 1 []))) := by
 refine spec_clone0 (by omega) mixed (fun _ _ _ h => h) Tryd.func97 (by decide +kernel) rfl (rs := _) rfl rfl (by simp [Tryd.f97]) (by decide +kernel) ?_ ?_
 ·
  simp only [argsL]
  refine c_reg fun K hK => ?_
  simp only [vx, vt, vp, q97, isNil_em, conts_em, Int.reduceBNe, Int.reduceBEq, Int.reduceLT, Int.reduceLE, Int.reduceGT, Int.reduceGE, decide_true, decide_false, bne_self_eq_false, beq_self_eq_true, reduceIte, rE, rA, rL, rM, rT, reduceCtorEq]
  apply hK; clear hK K
  refine c_assoc ?_
  refine c_reg fun K hK => ?_
  simp only [vx, vt, vp, q97, isNil_em, conts_em, Int.reduceBNe, Int.reduceBEq, Int.reduceLT, Int.reduceLE, Int.reduceGT, Int.reduceGE, decide_true, decide_false, bne_self_eq_false, beq_self_eq_true, reduceIte, rE, rA, rL, rM, rT, reduceCtorEq]
  apply hK; clear hK K
  refine c_if _ rfl (fun hb1 => ?_) (fun hb1 => ?_) <;> (have hp1 := hb1; try simp only [decide_eq_true_eq, decide_eq_false_iff_not, Bool.and_eq_true, Bool.or_eq_true, Bool.not_eq_true', Bool.not_eq_false', Bool.and_eq_false_iff, Bool.or_eq_false_iff, beq_iff_eq, bne_iff_ne, beq_eq_false_iff_ne, bne_eq_false_iff_eq, Bool.not_eq_false, Int.not_lt, Int.not_le] at hp1)
  refine c_assoc ?_
  refine c_reg fun K hK => ?_
  simp only [vx, vt, vp, q97, isNil_em, conts_em, hb1, Int.reduceBNe, Int.reduceBEq, Int.reduceLT, Int.reduceLE, Int.reduceGT, Int.reduceGE, decide_true, decide_false, bne_self_eq_false, beq_self_eq_true, reduceIte, rE, rA, rL, rM, rT, reduceCtorEq]
  apply hK; clear hK K
  refine c_ret ?_
  simp only [vx, vt, vp, q97, isNil_em, conts_em, hb1, Int.reduceBNe, Int.reduceBEq, Int.reduceLT, Int.reduceLE, Int.reduceGT, Int.reduceGE, decide_true, decide_false, bne_self_eq_false, beq_self_eq_true, reduceIte, rE, rA, rL, rM, rT, reduceCtorEq]
  exact ⟨_, rfl, rfl⟩
  cases hb1
 ·
  simp only [argsL]
  refine c_reg fun K hK => ?_
  simp only [vx, vt, vp, q97, isNil_em, conts_em, Int.reduceBNe, Int.reduceBEq, Int.reduceLT, Int.reduceLE, Int.reduceGT, Int.reduceGE, decide_true, decide_false, bne_self_eq_false, beq_self_eq_true, reduceIte, rE, rA, rL, rM, rT, reduceCtorEq]
  apply hK; clear hK K
  refine c_assoc ?_
  refine c_reg fun K hK => ?_
  simp only [vx, vt, vp, q97, isNil_em, conts_em, Int.reduceBNe, Int.reduceBEq, Int.reduceLT, Int.reduceLE, Int.reduceGT, Int.reduceGE, decide_true, decide_false, bne_self_eq_false, beq_self_eq_true, reduceIte, rE, rA, rL, rM, rT, reduceCtorEq]
  apply hK; clear hK K
  refine c_if _ rfl (fun hb1 => ?_) (fun hb1 => ?_) <;> (have hp1 := hb1; try simp only [decide_eq_true_eq, decide_eq_false_iff_not, Bool.and_eq_true, Bool.or_eq_true, Bool.not_eq_true', Bool.not_eq_false', Bool.and_eq_false_iff, Bool.or_eq_false_iff, beq_iff_eq, bne_iff_ne, beq_eq_false_iff_ne, bne_eq_false_iff_eq, Bool.not_eq_false, Int.not_lt, Int.not_le] at hp1)
  cases hb1
  refine c_skip ?_
  refine c_reg fun K hK => ?_
  simp only [vx, vt, vp, q97, isNil_em, conts_em, hb1, Int.reduceBNe, Int.reduceBEq, Int.reduceLT, Int.reduceLE, Int.reduceGT, Int.reduceGE, decide_true, decide_false, bne_self_eq_false, beq_self_eq_true, reduceIte, rE, rA, rL, rM, rT, reduceCtorEq]
  refine nb ?_
  refine nb ?_
  apply hK; clear hK K
  refine c_ret1 ?_
  simp only [vx, vt, vp, q97, isNil_em, conts_em, hb1, Int.reduceBNe, Int.reduceBEq, Int.reduceLT, Int.reduceLE, Int.reduceGT, Int.reduceGE, decide_true, decide_false, bne_self_eq_false, beq_self_eq_true, reduceIte, rE, rA, rL, rM, rT, reduceCtorEq]
  exact ⟨_, rfl, rfl⟩
end Go.Vm

namespace Go.Vm
open Go.Proofs
set_option maxRecDepth 100000
abbrev vNever : V := nn 1000000000000000
theorem specRep : Sp0 91 [.sl [vNever], nn 5] (.one (.c (.arr 3 1 [vNever, vNever, vNever, vNever, vNever]))) :=
 spec_win (fnE_ok (Γ := winΓ Γ0) (orc := fun _ _ => none) (itr := fun _ _ _ => none) (fuel := 300) (d := 10) mixed (fun _ _ _ h => by cases h) (fun _ _ _ _ h => by cases h) (by kernel_rfl))
def tblC : List (FuncId × List V × R) := [(97, [.sl []], .one (.c (.arr 3 1 []))), (91, [.sl [vNever], nn 5], .one (.c (.arr 3 1 [vNever, vNever, vNever, vNever, vNever])))]
theorem tblC_ok : ∀ e ∈ tblC, Sp0 e.1 e.2.1 e.2.2 := by
 intro e he
 simp only [tblC, List.mem_cons, List.not_mem_nil, or_false] at he
 rcases he with rfl | rfl
 ·
  exact spec97w2
 ·
  exact specRep
end Go.Vm

namespace Go.Vm
open Go.Proofs
set_option maxRecDepth 100000
theorem rep_1 : Sp0 91 [.sl [vNever], nn 1] (.one (.c (.arr 3 1 [vNever]))) :=
 spec_win (fnE_ok (Γ := winΓ Γ0) (orc := fun _ _ => none) (itr := fun _ _ _ => none) (fuel := 300) (d := 10) mixed (fun _ _ _ h => by cases h) (fun _ _ _ _ h => by cases h) (by kernel_rfl))
theorem rep_2 : Sp0 91 [.sl [vNever], nn 2] (.one (.c (.arr 3 1 [vNever, vNever]))) :=
 spec_win (fnE_ok (Γ := winΓ Γ0) (orc := fun _ _ => none) (itr := fun _ _ _ => none) (fuel := 300) (d := 10) mixed (fun _ _ _ h => by cases h) (fun _ _ _ _ h => by cases h) (by kernel_rfl))
theorem rep_3 : Sp0 91 [.sl [vNever], nn 3] (.one (.c (.arr 3 1 [vNever, vNever, vNever]))) :=
 spec_win (fnE_ok (Γ := winΓ Γ0) (orc := fun _ _ => none) (itr := fun _ _ _ => none) (fuel := 300) (d := 10) mixed (fun _ _ _ h => by cases h) (fun _ _ _ _ h => by cases h) (by kernel_rfl))
theorem rep_4 : Sp0 91 [.sl [vNever], nn 4] (.one (.c (.arr 3 1 [vNever, vNever, vNever, vNever]))) :=
 spec_win (fnE_ok (Γ := winΓ Γ0) (orc := fun _ _ => none) (itr := fun _ _ _ => none) (fuel := 300) (d := 10) mixed (fun _ _ _ h => by cases h) (fun _ _ _ _ h => by cases h) (by kernel_rfl))
theorem rep_5 : Sp0 91 [.sl [vNever], nn 5] (.one (.c (.arr 3 1 [vNever, vNever, vNever, vNever, vNever]))) :=
 spec_win (fnE_ok (Γ := winΓ Γ0) (orc := fun _ _ => none) (itr := fun _ _ _ => none) (fuel := 300) (d := 10) mixed (fun _ _ _ h => by cases h) (fun _ _ _ _ h => by cases h) (by kernel_rfl))
theorem rep_6 : Sp0 91 [.sl [vNever], nn 6] (.one (.c (.arr 3 1 [vNever, vNever, vNever, vNever, vNever, vNever]))) :=
 spec_win (fnE_ok (Γ := winΓ Γ0) (orc := fun _ _ => none) (itr := fun _ _ _ => none) (fuel := 300) (d := 10) mixed (fun _ _ _ h => by cases h) (fun _ _ _ _ h => by cases h) (by kernel_rfl))
theorem rep_7 : Sp0 91 [.sl [vNever], nn 7] (.one (.c (.arr 3 1 [vNever, vNever, vNever, vNever, vNever, vNever, vNever]))) :=
 spec_win (fnE_ok (Γ := winΓ Γ0) (orc := fun _ _ => none) (itr := fun _ _ _ => none) (fuel := 300) (d := 10) mixed (fun _ _ _ h => by cases h) (fun _ _ _ _ h => by cases h) (by kernel_rfl))
theorem rep_8 : Sp0 91 [.sl [vNever], nn 8] (.one (.c (.arr 3 1 [vNever, vNever, vNever, vNever, vNever, vNever, vNever, vNever]))) :=
 spec_win (fnE_ok (Γ := winΓ Γ0) (orc := fun _ _ => none) (itr := fun _ _ _ => none) (fuel := 300) (d := 10) mixed (fun _ _ _ h => by cases h) (fun _ _ _ _ h => by cases h) (by kernel_rfl))
theorem rep_9 : Sp0 91 [.sl [vNever], nn 9] (.one (.c (.arr 3 1 [vNever, vNever, vNever, vNever, vNever, vNever, vNever, vNever, vNever]))) :=
 spec_win (fnE_ok (Γ := winΓ Γ0) (orc := fun _ _ => none) (itr := fun _ _ _ => none) (fuel := 300) (d := 10) mixed (fun _ _ _ h => by cases h) (fun _ _ _ _ h => by cases h) (by kernel_rfl))
theorem rep_10 : Sp0 91 [.sl [vNever], nn 10] (.one (.c (.arr 3 1 [vNever, vNever, vNever, vNever, vNever, vNever, vNever, vNever, vNever, vNever]))) :=
 spec_win (fnE_ok (Γ := winΓ Γ0) (orc := fun _ _ => none) (itr := fun _ _ _ => none) (fuel := 300) (d := 10) mixed (fun _ _ _ h => by cases h) (fun _ _ _ _ h => by cases h) (by kernel_rfl))
theorem rep_11 : Sp0 91 [.sl [vNever], nn 11] (.one (.c (.arr 3 1 [vNever, vNever, vNever, vNever, vNever, vNever, vNever, vNever, vNever, vNever, vNever]))) :=
 spec_win (fnE_ok (Γ := winΓ Γ0) (orc := fun _ _ => none) (itr := fun _ _ _ => none) (fuel := 300) (d := 10) mixed (fun _ _ _ h => by cases h) (fun _ _ _ _ h => by cases h) (by kernel_rfl))
theorem rep_12 : Sp0 91 [.sl [vNever], nn 12] (.one (.c (.arr 3 1 [vNever, vNever, vNever, vNever, vNever, vNever, vNever, vNever, vNever, vNever, vNever, vNever]))) :=
 spec_win (fnE_ok (Γ := winΓ Γ0) (orc := fun _ _ => none) (itr := fun _ _ _ => none) (fuel := 300) (d := 10) mixed (fun _ _ _ h => by cases h) (fun _ _ _ _ h => by cases h) (by kernel_rfl))
theorem spec91 (n : Nat) (h1 : 1 ≤ n) (h2 : n ≤ 12) : Sp0 91 [.sl [vNever], nn n] (.one (.c (.arr 3 1 ((List.replicate n (1000000000000000 : Int)).map nn)))) := by
 match n, h1, h2 with
 | 1, _, _ => exact rep_1
 | 2, _, _ => exact rep_2
 | 3, _, _ => exact rep_3
 | 4, _, _ => exact rep_4
 | 5, _, _ => exact rep_5
 | 6, _, _ => exact rep_6
 | 7, _, _ => exact rep_7
 | 8, _, _ => exact rep_8
 | 9, _, _ => exact rep_9
 | 10, _, _ => exact rep_10
 | 11, _, _ => exact rep_11
 | 12, _, _ => exact rep_12
 | n + 13, _, h => exact absurd h (by omega)
end Go.Vm

namespace Go.Vm
open Go.Proofs
set_option maxRecDepth 100000
def noItr0 : FuncId → List V → List V → Option (List (List V)) := fun _ _ _ => none
theorem itrS1 : SpecI2 Tryd.prog Γ0 89 [] [.ref [nn 1]] [[.sl [nn 0]], [.sl [nn 1]], [.sl [nn 2]], [.sl [nn 3]]] := itrE_ok (orc := orcT tblC) (itr := noItr0) (fuel := 300) (d := 30) mixed (orcT_ok tblC_ok) (fun _ _ _ _ h => by cases h) fun l => by kernel_rfl
theorem itrS2 : SpecI2 Tryd.prog Γ0 89 [] [.ref [nn 2]] [[.sl [nn 0, nn 1]], [.sl [nn 0, nn 2]], [.sl [nn 0, nn 3]], [.sl [nn 1, nn 2]], [.sl [nn 1, nn 3]], [.sl [nn 2, nn 3]]] := itrE_ok (orc := orcT tblC) (itr := noItr0) (fuel := 300) (d := 30) mixed (orcT_ok tblC_ok) (fun _ _ _ _ h => by cases h) fun l => by kernel_rfl
theorem itrS3 : SpecI2 Tryd.prog Γ0 89 [] [.ref [nn 3]] [[.sl [nn 0, nn 1, nn 2]], [.sl [nn 0, nn 1, nn 3]], [.sl [nn 0, nn 2, nn 3]], [.sl [nn 1, nn 2, nn 3]]] := itrE_ok (orc := orcT tblC) (itr := noItr0) (fuel := 300) (d := 30) mixed (orcT_ok tblC_ok) (fun _ _ _ _ h => by cases h) fun l => by kernel_rfl
end Go.Vm
