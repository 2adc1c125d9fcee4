/- The statement CoolTables: for all arguments the law returns true, and its arguments read afterwards as they read before; the package variables that it lists are laid as the program lays them, and this is proved of the program's own text. No condition: whatever the input. -/
import Derived.Test.YtghcegglmgkacaaDoorWcKb
import Derived.Test.YtghcegglmgkacaaDoorWcLa
import Derived.Test.YtghcegglmgkacaaDoorWcW
set_option linter.all false
namespace Go.Vm
open Go.Proofs Go.Proofs.YtghcegglmgkacaaDoor
open Go.ChangeShapes Go.WideShapes Go.ChangeAt Go.RowKit
set_option maxRecDepth 100000
theorem coolTables_spec : ∀ xs, valAll [shTab, shPas] xs → Sp0 3 xs (R.v (.b true)) := by
  intro xs h
  match xs, h with
  | [x0, x1], h =>
    obtain ⟨h0, h1, _⟩ := h
    obtain ⟨t, rfl⟩ := val_tab h0
    obtain ⟨n, lo, hi, seg, rfl⟩ := val_pas h1
    exact law_tables t n lo hi seg spec4
  | [], h => exact h.elim
  | [_], h => exact h.2.elim
  | _ :: _ :: _ :: _, h => exact h.2.2.elim
theorem coolTables_lifted (os : Os) (started : os.Started) (H : Type) (enc : TypeId × Value → H) :
    ReturnsInHanded {} Tryd.checked os 3 .any (fun w args => (Rows.coolTablesSpec.pre enc Tryd.prog Tryd.f3 [] false w args ∧ laidMetH Tryd.prog laidD w) ∧ sizedMet enc Tryd.prog Tryd.f3 (OpenSpec.ofChange Rows.coolTablesSpec) false w args)
      (Rows.coolTablesSpec.post enc Tryd.prog Tryd.f3 false true false false) := by
  refine returnsInHanded_of_change_and (C := Tryd.checked) (X := fun w _ => laidMetH Tryd.prog laidD w) (fun _ _ _ hh h => h.of_heap hh) Tryd.own started (by kernel_rfl) Tryd.func3
    (ChangeSpec.witness_shaped (enc := enc) (C := Tryd.checked) (os := os) (X := fun w _ => laidMetH Tryd.prog laidD w) false (World.doorLaid Tryd.prog 400 os) #[.agg #[.int .i64 0, .int .i64 0, .slice none 0 0], .agg #[.int .i64 0, .int .i64 0, .int .i64 0, .int .i64 0]] 8 rfl (World.shaped_of_RefB (by kernel_rfl) (by kernel_rfl)) (by kernel_rfl) (by kernel_rfl) (by kernel_rfl) (door_met os _)) ?_
  intro W base args ds gs before hval0 hW _ _ hL _
  refine law_callsG (Γ := Γ0) Tryd.laidOut (shs := [shTab, shPas]) (tb := 4) (by kernel_rfl) (by kernel_rfl) rfl (by kernel_rfl) (by kernel_rfl) ?_ coolTables_spec (of_laid hL) hval0 hW
  intro ds hds
  match ds, hds with
  | [d0, d1], _ => rfl
end Go.Vm
namespace Go.Proofs.YtghcegglmgkacaaDoor
open Go.ChangeShapes Go.WideShapes Go.ChangeAt Go.RowKit
theorem coolTables_holds : Rows.CoolTablesSaid :=
  OpenClaim.holds_of_wide 3 Tryd.f3 rfl rfl rfl rfl rfl rfl rfl ⟨rfl, rfl, rfl, rfl, rfl⟩ rfl rfl rfl rfl rfl (by kernel_rfl) Tryd.func3 (by kernel_rfl)
    (of_decide_eq_true (by kernel_rfl)) (by unfold Func.isWrapper; rw [if_neg (by decide +kernel)]; exact ⟨rfl, rfl⟩)
    (fun os started H enc _ => Go.Vm.coolTables_lifted os started H enc)
theorem coolTablesCard_holds : Rows.CoolTablesCardSaid :=
  Claim7.holds_tied_plain_at .later [] [.data, .data, .data] true (true, "87f13404c556f498141534533f9815799882f04866ffc07c74c5f6bc32c349af") false
    coolTables_holds (fun _ h => by cases h) (by kernel_rfl) (fun _ h => by cases h) coolTables_row_tie rfl ⟨rfl, rfl⟩ (by kernel_rfl) rfl
    (fun f fn hf hfn => by
      obtain rfl : f = 3 := Option.some.inj ((show Tryd.prog.funcNamed "cobble/cobblelaw08.CoolTables" = some 3 by kernel_rfl).symm.trans hf) |>.symm
      obtain rfl : fn = Tryd.f3 := (Option.some.inj (Tryd.func3.symm.trans hfn)).symm
      exact ⟨by kernel_rfl, fun j t ht => by
        have hm : t ∈ Tryd.f3.params.toList := by simpa using Array.mem_of_getElem? ht
        have hall : (Tryd.f3.params.toList.all fun u => !Tryd.prog.wantsStandIn u) = true := by kernel_rfl
        exact (show Tryd.prog.wantsStandIn t = false by simpa using List.all_eq_true.1 hall t hm)⟩)
    (by kernel_rfl)
#print axioms coolTablesCard_holds
end Go.Proofs.YtghcegglmgkacaaDoor
