import Derived.Test.YtfmkfaohhpmpaaaGreatDoorWcB
import Derived.Test.YtfmkfaohhpmpaaaGreatDoorVmBE
set_option linter.all false
namespace Go.Vm
open Go.Proofs
set_option maxRecDepth 100000
/-! a row of numbers that stand for never -/
abbrev nvC : Int := 1099511627776
theorem rep_2 : Sp0 52 [.sl [nn 1099511627776], nn 2] (.one (.c (.arr 3 1 [nn nvC, nn nvC]))) :=
  spec_win (fnE_ok (Γ := winΓ Γ0) (orc := fun _ _ => none) (itr := fun _ _ _ => none) (fuel := 300) (d := 10) mixed (fun _ _ _ h => by cases h) (fun _ _ _ _ h => by cases h) (by kernel_rfl))
theorem rep_4 : Sp0 52 [.sl [nn 1099511627776], nn 4] (.one (.c (.arr 3 1 [nn nvC, nn nvC, nn nvC, nn nvC]))) :=
  spec_win (fnE_ok (Γ := winΓ Γ0) (orc := fun _ _ => none) (itr := fun _ _ _ => none) (fuel := 300) (d := 10) mixed (fun _ _ _ h => by cases h) (fun _ _ _ _ h => by cases h) (by kernel_rfl))
theorem rep_8 : Sp0 52 [.sl [nn 1099511627776], nn 8] (.one (.c (.arr 3 1 [nn nvC, nn nvC, nn nvC, nn nvC, nn nvC, nn nvC, nn nvC, nn nvC]))) :=
  spec_win (fnE_ok (Γ := winΓ Γ0) (orc := fun _ _ => none) (itr := fun _ _ _ => none) (fuel := 300) (d := 10) mixed (fun _ _ _ h => by cases h) (fun _ _ _ _ h => by cases h) (by kernel_rfl))
theorem rep_16 : Sp0 52 [.sl [nn 1099511627776], nn 16] (.one (.c (.arr 3 1 [nn nvC, nn nvC, nn nvC, nn nvC, nn nvC, nn nvC, nn nvC, nn nvC, nn nvC, nn nvC, nn nvC, nn nvC, nn nvC, nn nvC, nn nvC, nn nvC]))) :=
  spec_win (fnE_ok (Γ := winΓ Γ0) (orc := fun _ _ => none) (itr := fun _ _ _ => none) (fuel := 300) (d := 10) mixed (fun _ _ _ h => by cases h) (fun _ _ _ _ h => by cases h) (by kernel_rfl))
theorem spec52 (t : CTab) (h : 1 ≤ t.banks.length ∧ t.banks.length ≤ 4) : Sp0 52 [.sl [nn 1099511627776], nn ((2 ^ t.banks.length : Nat) : Int)] (.one (.c (.arr 3 1 ((List.replicate (2 ^ t.banks.length) nvC).map nn)))) := by
  obtain ⟨n, hn⟩ : ∃ n, n = t.banks.length := ⟨_, rfl⟩
  rw [← hn] at h ⊢
  match n, h with
  | 1, _ => exact rep_2
  | 2, _ => exact rep_4
  | 3, _ => exact rep_8
  | 4, _ => exact rep_16
  | 0, h => exact absurd h.1 (by omega)
  | n + 5, h => exact absurd h.2 (by omega)
end Go.Vm
