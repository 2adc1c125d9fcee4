import Derived.Test.YteegjkaoihcebaaGreatDoorWpX0
import Derived.Test.YteegjkaoihcebaaGreatDoorVmBE
set_option linter.all false
namespace Go.Vm
open Go.Proofs
set_option maxRecDepth 100000
abbrev vNever : V := nn 1000000000000000
theorem specRep : Sp0 102 [.sl [vNever], nn 5] (.one (.c (.arr 3 1 [vNever, vNever, vNever, vNever, vNever]))) :=
  spec_win (fnE_ok (Γ := winΓ Γ0) (orc := fun _ _ => none) (itr := fun _ _ _ => none) (fuel := 300) (d := 10) mixed (fun _ _ _ h => by cases h) (fun _ _ _ _ h => by cases h) (by kernel_rfl))
def tblC : List (FuncId × List V × R) := [(114, [.sl []], .one (.c (.arr 3 1 []))), (102, [.sl [vNever], nn 5], .one (.c (.arr 3 1 [vNever, vNever, vNever, vNever, vNever])))]
theorem tblC_ok : ∀ e ∈ tblC, Sp0 e.1 e.2.1 e.2.2 := by
  intro e he
  simp only [tblC, List.mem_cons, List.not_mem_nil, or_false] at he
  rcases he with rfl | rfl
  · exact spec114w2
  · exact specRep
end Go.Vm
