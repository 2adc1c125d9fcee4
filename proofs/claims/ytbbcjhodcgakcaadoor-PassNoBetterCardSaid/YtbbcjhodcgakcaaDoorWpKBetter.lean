/- The statement PassNoBetter: for all arguments the law returns true, and its arguments read afterwards as they read before; the package variables that it lists are laid as the program lays them, and this is proved of the program's own text. No condition: whatever the input. -/
import Derived.Test.YtbbcjhodcgakcaaDoorWpKp
import Derived.Test.YtbbcjhodcgakcaaDoorWpLqz
set_option linter.all false
namespace Go.Vm
open Go.Proofs Go.Proofs.YtbbcjhodcgakcaaDoor
open Go.ChangeShapes Go.WideShapes Go.ChangeAt Go.RowKit
set_option maxRecDepth 100000
theorem passNoBetter_spec : ∀ xs, valAll [shRul, shSch, shSrc] xs → Sp0 4 xs (R.v (.b true)) := by
 intro xs h
 match xs, h with
 | [x0, x1, x2], h =>
  obtain ⟨h0, h1, h2, _⟩ := h
  obtain ⟨r, rfl⟩ := val_rul h0
  obtain ⟨s, rfl⟩ := val_sch h1
  obtain ⟨g, Pt, rfl⟩ := val_src h2
  exact law_better r s g Pt
 | [], h => exact h.elim
 | [_], h => exact h.2.elim
 | [_, _], h => exact h.2.2.elim
 | _ :: _ :: _ :: _ :: _, h => exact h.2.2.2.elim
theorem passNoBetter_lifted (os : Os) (started : os.Started) (H : Type) (enc : TypeId × Value → H) :
  ReturnsInHanded {} Tryd.checked os 4 .any (fun w args => (Rows.passNoBetterSpec.pre enc Tryd.prog Tryd.f4 [] false w args ∧ laidMetH Tryd.prog laidD w) ∧ sizedMet enc Tryd.prog Tryd.f4 (OpenSpec.ofChange Rows.passNoBetterSpec) false w args)
   (Rows.passNoBetterSpec.post enc Tryd.prog Tryd.f4 false true false false) := by
 refine returnsInHanded_of_change_and (C := Tryd.checked) (X := fun w _ => laidMetH Tryd.prog laidD w) (fun _ _ _ hh h => h.of_heap hh) Tryd.own started (by kernel_rfl) Tryd.func4
  (ChangeSpec.witness_shaped (enc := enc) (C := Tryd.checked) (os := os) (X := fun w _ => laidMetH Tryd.prog laidD w) false (World.doorLaid Tryd.prog 400 os) #[.agg #[.int .i64 0, .int .i64 0, .int .i64 0, .int .i64 0, .int .i64 0, .int .i64 0, .slice none 0 0, .int .i64 0, .int .i64 0, .int .i64 0, .int .i64 0], .agg #[.string ⟨#[]⟩, .slice none 0 0], .agg #[.int .i64 0, .slice none 0 0]] 8 rfl (World.shaped_of_RefB (by kernel_rfl) (by kernel_rfl)) (by kernel_rfl) (by kernel_rfl) (by kernel_rfl) (door_met os _)) ?_
 intro W base args ds gs before hval0 hW _ _ hL _
 refine law_callsG (Γ := Γ0) Tryd.laidOut (shs := [shRul, shSch, shSrc]) (tb := 4) (by kernel_rfl) (by kernel_rfl) rfl (by kernel_rfl) (by kernel_rfl) ?_ passNoBetter_spec (of_laid hL) hval0 hW
 intro ds hds
 match ds, hds with
 | [d0, d1, d2], _ => rfl
end Go.Vm
namespace Go.Proofs.YtbbcjhodcgakcaaDoor
open Go.ChangeShapes Go.WideShapes Go.ChangeAt Go.RowKit
theorem passNoBetter_holds : Rows.PassNoBetterSaid :=
 OpenClaim.holds_of_wide 4 Tryd.f4 rfl rfl rfl rfl rfl rfl rfl ⟨rfl, rfl, rfl, rfl, rfl⟩ rfl rfl rfl rfl rfl (by kernel_rfl) Tryd.func4 (by kernel_rfl)
  (of_decide_eq_true (by kernel_rfl)) (by unfold Func.isWrapper; rw [if_neg (by decide +kernel)]; exact ⟨rfl, rfl⟩)
  (fun os started H enc _ => Go.Vm.passNoBetter_lifted os started H enc)
theorem passNoBetterCard_holds : Rows.PassNoBetterCardSaid :=
 Claim7.holds_tied_plain_at .later [] [.data, .wider, .wider, .wider, .wider] true (true, "d173242b3d1c506fd1e2f7798a3f03f7d13f8ecf18356b423531ccac4d78bf69") false
  passNoBetter_holds (fun _ h => by cases h) (by kernel_rfl) (fun _ h => by cases h) passNoBetter_row_tie rfl ⟨rfl, rfl⟩ (by kernel_rfl) rfl
  (fun f fn hf hfn => by
   obtain rfl : f = 4 := Option.some.inj ((show Tryd.prog.funcNamed "cobble/cobblelaw03.PassNoBetter" = some 4 by kernel_rfl).symm.trans hf) |>.symm
   obtain rfl : fn = Tryd.f4 := (Option.some.inj (Tryd.func4.symm.trans hfn)).symm
   exact ⟨by kernel_rfl, fun j t ht => by
    have hm : t ∈ Tryd.f4.params.toList := by simpa using Array.mem_of_getElem? ht
    have hall : (Tryd.f4.params.toList.all fun u => !Tryd.prog.wantsStandIn u) = true := by kernel_rfl
    exact (show Tryd.prog.wantsStandIn t = false by simpa using List.all_eq_true.1 hall t hm)⟩)
  (by kernel_rfl)
#print axioms passNoBetterCard_holds
end Go.Proofs.YtbbcjhodcgakcaaDoor
