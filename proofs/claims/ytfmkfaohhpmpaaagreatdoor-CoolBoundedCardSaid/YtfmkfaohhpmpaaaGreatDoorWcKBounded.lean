import Derived.Test.YtfmkfaohhpmpaaaGreatDoorWcKo
import Derived.Test.YtfmkfaohhpmpaaaGreatDoorWcLv
import Derived.Test.YtfmkfaohhpmpaaaGreatDoorWcW
set_option linter.all false
/- The statement CoolBounded: for all arguments the law returns true, and its arguments read afterwards as they read before; the package variables that it lists are laid as the program lays them, and this is proved of the program's own text. No condition: whatever the input. -/
namespace Go.Vm
open Go.Proofs Go.Proofs.YtfmkfaohhpmpaaaGreatDoor
open Go.ChangeShapes Go.WideShapes Go.ChangeAt Go.RowKit
set_option maxRecDepth 100000
theorem coolBounded_spec : ∀ xs, valAll [shTab, shStr, shOff] xs → Sp0 4 xs (R.v (.b true)) := by
  intro xs h
  match xs, h with
  | [x0, x1, x2], h =>
    obtain ⟨h0, h1, h2, _⟩ := h
    obtain ⟨t, rfl⟩ := val_tab h0
    obtain ⟨x, rfl⟩ := val_str h1
    obtain ⟨c, P, l, rfl⟩ := val_off h2
    exact law_bounded t x c P l spec5
  | [], h => exact h.elim
  | [_], h => exact h.2.elim
  | [_, _], h => exact h.2.2.elim
  | _ :: _ :: _ :: _ :: _, h => exact h.2.2.2.elim
theorem coolBounded_lifted (os : Os) (started : os.Started) (H : Type) (enc : TypeId × Value → H) :
    ReturnsInHanded {} Tryz.checked os 4 .any (fun w args => (Rows.coolBoundedSpec.pre enc Tryz.prog Tryz.f4 [] false w args ∧ laidMetH Tryz.prog laidD w) ∧ sizedMet enc Tryz.prog Tryz.f4 (OpenSpec.ofChange Rows.coolBoundedSpec) false w args)
      (Rows.coolBoundedSpec.post enc Tryz.prog Tryz.f4 false true false false) := by
  refine returnsInHanded_of_change_and (C := Tryz.checked) (X := fun w _ => laidMetH Tryz.prog laidD w) (fun _ _ _ hh h => h.of_heap hh) Tryz.own started (by kernel_rfl) Tryz.func4
    (ChangeSpec.witness_shaped (enc := enc) (C := Tryz.checked) (os := os) (X := fun w _ => laidMetH Tryz.prog laidD w) false (World.doorLaid Tryz.prog 400 os) #[.agg #[.int .i64 0, .int .i64 0, .slice none 0 0], .agg #[.slice none 0 0, .slice none 0 0], .agg #[.int .i64 0, .int .i64 0, .slice none 0 0, .slice none 0 0]] 8 rfl (World.shaped_of_RefB (by kernel_rfl) (by kernel_rfl)) (by kernel_rfl) (by kernel_rfl) (by kernel_rfl) (door_met os _)) ?_
  intro W base args ds gs before hval0 hW _ _ hL _
  refine law_callsG (Γ := Γ0) Tryz.laidOut (shs := [shTab, shStr, shOff]) (tb := 4) (by kernel_rfl) (by kernel_rfl) rfl (by kernel_rfl) (by kernel_rfl) ?_ coolBounded_spec (of_laid hL) hval0 hW
  intro ds hds
  match ds, hds with
  | [d0, d1, d2], _ => rfl
end Go.Vm
namespace Go.Proofs.YtfmkfaohhpmpaaaGreatDoor
open Go.ChangeShapes Go.WideShapes Go.ChangeAt Go.RowKit
theorem coolBounded_holds : Rows.CoolBoundedSaid :=
  OpenClaim.holds_of_wide 4 Tryz.f4 rfl rfl rfl rfl rfl rfl rfl ⟨rfl, rfl, rfl, rfl, rfl⟩ rfl rfl rfl rfl rfl (by kernel_rfl) Tryz.func4 (by kernel_rfl)
    (of_decide_eq_true (by kernel_rfl)) (by unfold Func.isWrapper; rw [if_neg (by decide +kernel)]; exact ⟨rfl, rfl⟩)
    (fun os started H enc _ => Go.Vm.coolBounded_lifted os started H enc)
theorem coolBoundedCard_holds : Rows.CoolBoundedCardSaid :=
  Claim7.holds_tied_plain_at .later [] [.data, .data, .data] true (true, "f822276d52052b732b8be5a60a11898aa6da75d370d77255847b7ad44573f276") false
    coolBounded_holds (fun _ h => by cases h) (by kernel_rfl) (fun _ h => by cases h) coolBounded_row_tie rfl ⟨rfl, rfl⟩ (by kernel_rfl) rfl
    (fun f fn hf hfn => by
      obtain rfl : f = 4 := Option.some.inj ((show Tryz.prog.funcNamed "cobble/cobblelaw08.CoolBounded" = some 4 by kernel_rfl).symm.trans hf) |>.symm
      obtain rfl : fn = Tryz.f4 := (Option.some.inj (Tryz.func4.symm.trans hfn)).symm
      exact ⟨by kernel_rfl, fun j t ht => by
        have hm : t ∈ Tryz.f4.params.toList := by simpa using Array.mem_of_getElem? ht
        have hall : (Tryz.f4.params.toList.all fun u => !Tryz.prog.wantsStandIn u) = true := by kernel_rfl
        exact (show Tryz.prog.wantsStandIn t = false by simpa using List.all_eq_true.1 hall t hm)⟩)
    (by kernel_rfl)
#print axioms coolBoundedCard_holds
end Go.Proofs.YtfmkfaohhpmpaaaGreatDoor
