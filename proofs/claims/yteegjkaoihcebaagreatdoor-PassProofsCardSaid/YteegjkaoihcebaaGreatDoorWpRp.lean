import Derived.Test.YteegjkaoihcebaaGreatDoorWpW0
set_option linter.all false
namespace Go.Vm
open Go.Proofs
set_option maxRecDepth 100000
theorem rep_1 : Sp0 102 [.sl [vNever], nn 1] (.one (.c (.arr 3 1 [vNever]))) :=
  spec_win (fnE_ok (Γ := winΓ Γ0) (orc := fun _ _ => none) (itr := fun _ _ _ => none) (fuel := 300) (d := 10) mixed (fun _ _ _ h => by cases h) (fun _ _ _ _ h => by cases h) (by kernel_rfl))
theorem rep_2 : Sp0 102 [.sl [vNever], nn 2] (.one (.c (.arr 3 1 [vNever, vNever]))) :=
  spec_win (fnE_ok (Γ := winΓ Γ0) (orc := fun _ _ => none) (itr := fun _ _ _ => none) (fuel := 300) (d := 10) mixed (fun _ _ _ h => by cases h) (fun _ _ _ _ h => by cases h) (by kernel_rfl))
theorem rep_3 : Sp0 102 [.sl [vNever], nn 3] (.one (.c (.arr 3 1 [vNever, vNever, vNever]))) :=
  spec_win (fnE_ok (Γ := winΓ Γ0) (orc := fun _ _ => none) (itr := fun _ _ _ => none) (fuel := 300) (d := 10) mixed (fun _ _ _ h => by cases h) (fun _ _ _ _ h => by cases h) (by kernel_rfl))
theorem rep_4 : Sp0 102 [.sl [vNever], nn 4] (.one (.c (.arr 3 1 [vNever, vNever, vNever, vNever]))) :=
  spec_win (fnE_ok (Γ := winΓ Γ0) (orc := fun _ _ => none) (itr := fun _ _ _ => none) (fuel := 300) (d := 10) mixed (fun _ _ _ h => by cases h) (fun _ _ _ _ h => by cases h) (by kernel_rfl))
theorem rep_5 : Sp0 102 [.sl [vNever], nn 5] (.one (.c (.arr 3 1 [vNever, vNever, vNever, vNever, vNever]))) :=
  spec_win (fnE_ok (Γ := winΓ Γ0) (orc := fun _ _ => none) (itr := fun _ _ _ => none) (fuel := 300) (d := 10) mixed (fun _ _ _ h => by cases h) (fun _ _ _ _ h => by cases h) (by kernel_rfl))
theorem rep_6 : Sp0 102 [.sl [vNever], nn 6] (.one (.c (.arr 3 1 [vNever, vNever, vNever, vNever, vNever, vNever]))) :=
  spec_win (fnE_ok (Γ := winΓ Γ0) (orc := fun _ _ => none) (itr := fun _ _ _ => none) (fuel := 300) (d := 10) mixed (fun _ _ _ h => by cases h) (fun _ _ _ _ h => by cases h) (by kernel_rfl))
theorem rep_7 : Sp0 102 [.sl [vNever], nn 7] (.one (.c (.arr 3 1 [vNever, vNever, vNever, vNever, vNever, vNever, vNever]))) :=
  spec_win (fnE_ok (Γ := winΓ Γ0) (orc := fun _ _ => none) (itr := fun _ _ _ => none) (fuel := 300) (d := 10) mixed (fun _ _ _ h => by cases h) (fun _ _ _ _ h => by cases h) (by kernel_rfl))
theorem rep_8 : Sp0 102 [.sl [vNever], nn 8] (.one (.c (.arr 3 1 [vNever, vNever, vNever, vNever, vNever, vNever, vNever, vNever]))) :=
  spec_win (fnE_ok (Γ := winΓ Γ0) (orc := fun _ _ => none) (itr := fun _ _ _ => none) (fuel := 300) (d := 10) mixed (fun _ _ _ h => by cases h) (fun _ _ _ _ h => by cases h) (by kernel_rfl))
theorem rep_9 : Sp0 102 [.sl [vNever], nn 9] (.one (.c (.arr 3 1 [vNever, vNever, vNever, vNever, vNever, vNever, vNever, vNever, vNever]))) :=
  spec_win (fnE_ok (Γ := winΓ Γ0) (orc := fun _ _ => none) (itr := fun _ _ _ => none) (fuel := 300) (d := 10) mixed (fun _ _ _ h => by cases h) (fun _ _ _ _ h => by cases h) (by kernel_rfl))
theorem rep_10 : Sp0 102 [.sl [vNever], nn 10] (.one (.c (.arr 3 1 [vNever, vNever, vNever, vNever, vNever, vNever, vNever, vNever, vNever, vNever]))) :=
  spec_win (fnE_ok (Γ := winΓ Γ0) (orc := fun _ _ => none) (itr := fun _ _ _ => none) (fuel := 300) (d := 10) mixed (fun _ _ _ h => by cases h) (fun _ _ _ _ h => by cases h) (by kernel_rfl))
theorem rep_11 : Sp0 102 [.sl [vNever], nn 11] (.one (.c (.arr 3 1 [vNever, vNever, vNever, vNever, vNever, vNever, vNever, vNever, vNever, vNever, vNever]))) :=
  spec_win (fnE_ok (Γ := winΓ Γ0) (orc := fun _ _ => none) (itr := fun _ _ _ => none) (fuel := 300) (d := 10) mixed (fun _ _ _ h => by cases h) (fun _ _ _ _ h => by cases h) (by kernel_rfl))
theorem rep_12 : Sp0 102 [.sl [vNever], nn 12] (.one (.c (.arr 3 1 [vNever, vNever, vNever, vNever, vNever, vNever, vNever, vNever, vNever, vNever, vNever, vNever]))) :=
  spec_win (fnE_ok (Γ := winΓ Γ0) (orc := fun _ _ => none) (itr := fun _ _ _ => none) (fuel := 300) (d := 10) mixed (fun _ _ _ h => by cases h) (fun _ _ _ _ h => by cases h) (by kernel_rfl))
theorem spec102 (n : Nat) (h1 : 1 ≤ n) (h2 : n ≤ 12) : Sp0 102 [.sl [vNever], nn n] (.one (.c (.arr 3 1 ((List.replicate n (1000000000000000 : Int)).map nn)))) := by
  match n, h1, h2 with
  | 1, _, _ => exact rep_1
  | 2, _, _ => exact rep_2
  | 3, _, _ => exact rep_3
  | 4, _, _ => exact rep_4
  | 5, _, _ => exact rep_5
  | 6, _, _ => exact rep_6
  | 7, _, _ => exact rep_7
  | 8, _, _ => exact rep_8
  | 9, _, _ => exact rep_9
  | 10, _, _ => exact rep_10
  | 11, _, _ => exact rep_11
  | 12, _, _ => exact rep_12
  | n + 13, _, h => exact absurd h (by omega)
end Go.Vm
