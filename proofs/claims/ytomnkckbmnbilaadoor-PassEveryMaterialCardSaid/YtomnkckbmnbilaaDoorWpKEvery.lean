/- The statement PassEveryMaterial: for all arguments the law returns true, and its arguments read afterwards as they read before; the package variables that it lists are laid as the program lays them, and this is proved of the program's own text. No condition: whatever the input. -/
import Derived.Test.YtomnkckbmnbilaaDoorWpKb
import Derived.Test.YtomnkckbmnbilaaDoorWpLg
set_option linter.all false
namespace Go.Vm
open Go.Proofs Go.Proofs.YtomnkckbmnbilaaDoor
open Go.ChangeShapes Go.WideShapes Go.ChangeAt Go.RowKit
set_option maxRecDepth 100000
theorem passEveryMaterial_spec : ∀ xs, valAll [shRul, shSch, shMat] xs → Sp0 6 xs (R.v (.b true)) := by
  intro xs h
  match xs, h with
  | [x0, x1, x2], h =>
    obtain ⟨h0, h1, h2, _⟩ := h
    obtain ⟨r, rfl⟩ := val_rul h0
    obtain ⟨s, rfl⟩ := val_sch h1
    obtain ⟨m, rfl⟩ := val_mat h2
    exact law_every r s m
  | [], h => exact h.elim
  | [_], h => exact h.2.elim
  | [_, _], h => exact h.2.2.elim
  | _ :: _ :: _ :: _ :: _, h => exact h.2.2.2.elim
theorem passEveryMaterial_lifted (os : Os) (started : os.Started) (H : Type) (enc : TypeId × Value → H) :
    ReturnsInHanded {} Tryd.checked os 6 .any (fun w args => (Rows.passEveryMaterialSpec.pre enc Tryd.prog Tryd.f6 [] false w args ∧ laidMetH Tryd.prog laidD w) ∧ sizedMet enc Tryd.prog Tryd.f6 (OpenSpec.ofChange Rows.passEveryMaterialSpec) false w args)
      (Rows.passEveryMaterialSpec.post enc Tryd.prog Tryd.f6 false true false false) := by
  refine returnsInHanded_of_change_and (C := Tryd.checked) (X := fun w _ => laidMetH Tryd.prog laidD w) (fun _ _ _ hh h => h.of_heap hh) Tryd.own started (by kernel_rfl) Tryd.func6
    (ChangeSpec.witness_shaped (enc := enc) (C := Tryd.checked) (os := os) (X := fun w _ => laidMetH Tryd.prog laidD w) false (World.doorLaid Tryd.prog 400 os) #[.agg #[.int .i64 0, .int .i64 0, .int .i64 0, .int .i64 0, .int .i64 0, .int .i64 0, .slice none 0 0, .int .i64 0, .int .i64 0, .int .i64 0, .int .i64 0], .agg #[.string ⟨#[]⟩, .slice none 0 0], .agg #[.int .i64 0, .int .i64 0, .int .i64 0, .slice none 0 0]] 8 rfl (World.shaped_of_RefB (by kernel_rfl) (by kernel_rfl)) (by kernel_rfl) (by kernel_rfl) (by kernel_rfl) (door_met os _)) ?_
  intro W base args ds gs before hval0 hW _ _ hL _
  refine law_callsG (Γ := Γ0) Tryd.laidOut (shs := [shRul, shSch, shMat]) (tb := 4) (by kernel_rfl) (by kernel_rfl) rfl (by kernel_rfl) (by kernel_rfl) ?_ passEveryMaterial_spec (of_laid hL) hval0 hW
  intro ds hds
  match ds, hds with
  | [d0, d1, d2], _ => rfl
end Go.Vm
namespace Go.Proofs.YtomnkckbmnbilaaDoor
open Go.ChangeShapes Go.WideShapes Go.ChangeAt Go.RowKit
theorem passEveryMaterial_holds : Rows.PassEveryMaterialSaid :=
  OpenClaim.holds_of_wide 6 Tryd.f6 rfl rfl rfl rfl rfl rfl rfl ⟨rfl, rfl, rfl, rfl, rfl⟩ rfl rfl rfl rfl rfl (by kernel_rfl) Tryd.func6 (by kernel_rfl)
    (of_decide_eq_true (by kernel_rfl)) (by unfold Func.isWrapper; rw [if_neg (by decide +kernel)]; exact ⟨rfl, rfl⟩)
    (fun os started H enc _ => Go.Vm.passEveryMaterial_lifted os started H enc)
theorem passEveryMaterialCard_holds : Rows.PassEveryMaterialCardSaid :=
  Claim7.holds_tied_plain_at .later [] [.data, .wider, .wider, .wider, .wider] true (true, "49b7e4a732a1ae2c22443ed8d4da18d771f99735e5d20d6b02c77749bb208faa") false
    passEveryMaterial_holds (fun _ h => by cases h) (by kernel_rfl) (fun _ h => by cases h) passEveryMaterial_row_tie rfl ⟨rfl, rfl⟩ (by kernel_rfl) rfl
    (fun f fn hf hfn => by
      obtain rfl : f = 6 := Option.some.inj ((show Tryd.prog.funcNamed "cobble/cobblelaw03.PassEveryMaterial" = some 6 by kernel_rfl).symm.trans hf) |>.symm
      obtain rfl : fn = Tryd.f6 := (Option.some.inj (Tryd.func6.symm.trans hfn)).symm
      exact ⟨by kernel_rfl, fun j t ht => by
        have hm : t ∈ Tryd.f6.params.toList := by simpa using Array.mem_of_getElem? ht
        have hall : (Tryd.f6.params.toList.all fun u => !Tryd.prog.wantsStandIn u) = true := by kernel_rfl
        exact (show Tryd.prog.wantsStandIn t = false by simpa using List.all_eq_true.1 hall t hm)⟩)
    (by kernel_rfl)
#print axioms passEveryMaterialCard_holds
end Go.Proofs.YtomnkckbmnbilaaDoor
