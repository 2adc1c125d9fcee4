/- The statement CoolEnclosed: for all arguments the law returns true, and its arguments read afterwards as they read before; the package variables that it lists are laid as the program lays them, and this is proved of the program's own text. No condition: whatever the input. -/
import Derived.Test.YtfgjngignahcdaaDoorWcKb
import Derived.Test.YtfgjngignahcdaaDoorWcLn
import Derived.Test.YtfgjngignahcdaaDoorWcW
set_option linter.all false
namespace Go.Vm
open Go.Proofs Go.Proofs.YtfgjngignahcdaaDoor
open Go.ChangeShapes Go.WideShapes Go.ChangeAt Go.RowKit
set_option maxRecDepth 100000
theorem coolEnclosed_spec : ∀ xs, valAll [shTab, shPas, .sl (.int .i64)] xs → Sp0 3 xs (R.v (.b true)) := by
  intro xs h
  match xs, h with
  | [x0, x1, x2], h =>
    obtain ⟨h0, h1, h2, _⟩ := h
    obtain ⟨t, rfl⟩ := val_tab h0
    obtain ⟨n, lo, hi, seg, rfl⟩ := val_pas h1
    obtain ⟨l, rfl⟩ := val_isl h2
    exact law_enclosed t n lo hi seg l spec4
  | [], h => exact h.elim
  | [_], h => exact h.2.elim
  | [_, _], h => exact h.2.2.elim
  | _ :: _ :: _ :: _ :: _, h => exact h.2.2.2.elim
theorem coolEnclosed_lifted (os : Os) (started : os.Started) (H : Type) (enc : TypeId × Value → H) :
    ReturnsInHanded {} Tryd.checked os 3 .any (fun w args => (Rows.coolEnclosedSpec.pre enc Tryd.prog Tryd.f3 [] false w args ∧ laidMetH Tryd.prog laidD w) ∧ sizedMet enc Tryd.prog Tryd.f3 (OpenSpec.ofChange Rows.coolEnclosedSpec) false w args)
      (Rows.coolEnclosedSpec.post enc Tryd.prog Tryd.f3 false true false false) := by
  refine returnsInHanded_of_change_and (C := Tryd.checked) (X := fun w _ => laidMetH Tryd.prog laidD w) (fun _ _ _ hh h => h.of_heap hh) Tryd.own started (by kernel_rfl) Tryd.func3
    (ChangeSpec.witness_shaped (enc := enc) (C := Tryd.checked) (os := os) (X := fun w _ => laidMetH Tryd.prog laidD w) false (World.doorLaid Tryd.prog 400 os) #[.agg #[.int .i64 0, .int .i64 0, .slice none 0 0], .agg #[.int .i64 0, .int .i64 0, .int .i64 0, .int .i64 0], .slice none 0 0] 8 rfl (World.shaped_of_RefB (by kernel_rfl) (by kernel_rfl)) (by kernel_rfl) (by kernel_rfl) (by kernel_rfl) (door_met os _)) ?_
  intro W base args ds gs before hval0 hW _ _ hL _
  refine law_callsG (Γ := Γ0) Tryd.laidOut (shs := [shTab, shPas, .sl (.int .i64)]) (tb := 4) (by kernel_rfl) (by kernel_rfl) rfl (by kernel_rfl) (by kernel_rfl) ?_ coolEnclosed_spec (of_laid hL) hval0 hW
  intro ds hds
  match ds, hds with
  | [d0, d1, d2], _ => rfl
end Go.Vm
namespace Go.Proofs.YtfgjngignahcdaaDoor
open Go.ChangeShapes Go.WideShapes Go.ChangeAt Go.RowKit
theorem coolEnclosed_holds : Rows.CoolEnclosedSaid :=
  OpenClaim.holds_of_wide 3 Tryd.f3 rfl rfl rfl rfl rfl rfl rfl ⟨rfl, rfl, rfl, rfl, rfl⟩ rfl rfl rfl rfl rfl (by kernel_rfl) Tryd.func3 (by kernel_rfl)
    (of_decide_eq_true (by kernel_rfl)) (by unfold Func.isWrapper; rw [if_neg (by decide +kernel)]; exact ⟨rfl, rfl⟩)
    (fun os started H enc _ => Go.Vm.coolEnclosed_lifted os started H enc)
theorem coolEnclosedCard_holds : Rows.CoolEnclosedCardSaid :=
  Claim7.holds_tied_plain_at .later [] [.data, .data, .data] true (true, "8e8127e3d5d6d2e02c79f1ec4cf5a98b2a77672de870acd7d840f719e20b5fd1") false
    coolEnclosed_holds (fun _ h => by cases h) (by kernel_rfl) (fun _ h => by cases h) coolEnclosed_row_tie rfl ⟨rfl, rfl⟩ (by kernel_rfl) rfl
    (fun f fn hf hfn => by
      obtain rfl : f = 3 := Option.some.inj ((show Tryd.prog.funcNamed "cobble/cobblelaw08.CoolEnclosed" = some 3 by kernel_rfl).symm.trans hf) |>.symm
      obtain rfl : fn = Tryd.f3 := (Option.some.inj (Tryd.func3.symm.trans hfn)).symm
      exact ⟨by kernel_rfl, fun j t ht => by
        have hm : t ∈ Tryd.f3.params.toList := by simpa using Array.mem_of_getElem? ht
        have hall : (Tryd.f3.params.toList.all fun u => !Tryd.prog.wantsStandIn u) = true := by kernel_rfl
        exact (show Tryd.prog.wantsStandIn t = false by simpa using List.all_eq_true.1 hall t hm)⟩)
    (by kernel_rfl)
#print axioms coolEnclosedCard_holds
end Go.Proofs.YtfgjngignahcdaaDoor
