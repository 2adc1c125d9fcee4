import Derived.Test.YtfmkfaohhpmpaaaGreatDoorWcKo
import Derived.Test.YtfmkfaohhpmpaaaGreatDoorWcLu
import Derived.Test.YtfmkfaohhpmpaaaGreatDoorWcW
set_option linter.all false
/- The statement CoolBounds: for all arguments the law returns true, and its arguments read afterwards as they read before; the package variables that it lists are laid as the program lays them, and this is proved of the program's own text. No condition: whatever the input. -/
namespace Go.Vm
open Go.Proofs Go.Proofs.YtfmkfaohhpmpaaaGreatDoor
open Go.ChangeShapes Go.WideShapes Go.ChangeAt Go.RowKit
set_option maxRecDepth 100000
theorem coolBounds_spec : ∀ xs, valAll [shTab, shStr, shBnd] xs → Sp0 3 xs (R.v (.b true)) := by
  intro xs h
  match xs, h with
  | [x0, x1, x2], h =>
    obtain ⟨h0, h1, h2, _⟩ := h
    obtain ⟨t, rfl⟩ := val_tab h0
    obtain ⟨x, rfl⟩ := val_str h1
    obtain ⟨c, P, rfl⟩ := val_bnd h2
    exact law_bounds t x c P spec5
  | [], h => exact h.elim
  | [_], h => exact h.2.elim
  | [_, _], h => exact h.2.2.elim
  | _ :: _ :: _ :: _ :: _, h => exact h.2.2.2.elim
theorem coolBounds_lifted (os : Os) (started : os.Started) (H : Type) (enc : TypeId × Value → H) :
    ReturnsInHanded {} Tryz.checked os 3 .any (fun w args => (Rows.coolBoundsSpec.pre enc Tryz.prog Tryz.f3 [] false w args ∧ laidMetH Tryz.prog laidD w) ∧ sizedMet enc Tryz.prog Tryz.f3 (OpenSpec.ofChange Rows.coolBoundsSpec) false w args)
      (Rows.coolBoundsSpec.post enc Tryz.prog Tryz.f3 false true false false) := by
  refine returnsInHanded_of_change_and (C := Tryz.checked) (X := fun w _ => laidMetH Tryz.prog laidD w) (fun _ _ _ hh h => h.of_heap hh) Tryz.own started (by kernel_rfl) Tryz.func3
    (ChangeSpec.witness_shaped (enc := enc) (C := Tryz.checked) (os := os) (X := fun w _ => laidMetH Tryz.prog laidD w) false (World.doorLaid Tryz.prog 400 os) #[.agg #[.int .i64 0, .int .i64 0, .slice none 0 0], .agg #[.slice none 0 0, .slice none 0 0], .agg #[.int .i64 0, .int .i64 0, .slice none 0 0]] 8 rfl (World.shaped_of_RefB (by kernel_rfl) (by kernel_rfl)) (by kernel_rfl) (by kernel_rfl) (by kernel_rfl) (door_met os _)) ?_
  intro W base args ds gs before hval0 hW _ _ hL _
  refine law_callsG (Γ := Γ0) Tryz.laidOut (shs := [shTab, shStr, shBnd]) (tb := 4) (by kernel_rfl) (by kernel_rfl) rfl (by kernel_rfl) (by kernel_rfl) ?_ coolBounds_spec (of_laid hL) hval0 hW
  intro ds hds
  match ds, hds with
  | [d0, d1, d2], _ => rfl
end Go.Vm
namespace Go.Proofs.YtfmkfaohhpmpaaaGreatDoor
open Go.ChangeShapes Go.WideShapes Go.ChangeAt Go.RowKit
theorem coolBounds_holds : Rows.CoolBoundsSaid :=
  OpenClaim.holds_of_wide 3 Tryz.f3 rfl rfl rfl rfl rfl rfl rfl ⟨rfl, rfl, rfl, rfl, rfl⟩ rfl rfl rfl rfl rfl (by kernel_rfl) Tryz.func3 (by kernel_rfl)
    (of_decide_eq_true (by kernel_rfl)) (by unfold Func.isWrapper; rw [if_neg (by decide +kernel)]; exact ⟨rfl, rfl⟩)
    (fun os started H enc _ => Go.Vm.coolBounds_lifted os started H enc)
theorem coolBoundsCard_holds : Rows.CoolBoundsCardSaid :=
  Claim7.holds_tied_plain_at .later [] [.data, .data, .data] true (true, "f822276d52052b732b8be5a60a11898aa6da75d370d77255847b7ad44573f276") false
    coolBounds_holds (fun _ h => by cases h) (by kernel_rfl) (fun _ h => by cases h) coolBounds_row_tie rfl ⟨rfl, rfl⟩ (by kernel_rfl) rfl
    (fun f fn hf hfn => by
      obtain rfl : f = 3 := Option.some.inj ((show Tryz.prog.funcNamed "cobble/cobblelaw08.CoolBounds" = some 3 by kernel_rfl).symm.trans hf) |>.symm
      obtain rfl : fn = Tryz.f3 := (Option.some.inj (Tryz.func3.symm.trans hfn)).symm
      exact ⟨by kernel_rfl, fun j t ht => by
        have hm : t ∈ Tryz.f3.params.toList := by simpa using Array.mem_of_getElem? ht
        have hall : (Tryz.f3.params.toList.all fun u => !Tryz.prog.wantsStandIn u) = true := by kernel_rfl
        exact (show Tryz.prog.wantsStandIn t = false by simpa using List.all_eq_true.1 hall t hm)⟩)
    (by kernel_rfl)
#print axioms coolBoundsCard_holds
end Go.Proofs.YtfmkfaohhpmpaaaGreatDoor
