import Derived.Test.YtbbcjhodcgakcaaDoorWpW0
import Derived.Test.YtbbcjhodcgakcaaDoorVmBE
set_option linter.all false
namespace Go.Vm
open Go.Proofs
set_option maxRecDepth 100000
def noItr0 : FuncId → List V → List V → Option (List (List V)) := fun _ _ _ => none
theorem itrS1 : SpecI2 Tryd.prog Γ0 89 [] [.ref [nn 1]] [[.sl [nn 0]], [.sl [nn 1]], [.sl [nn 2]], [.sl [nn 3]]] := itrE_ok (orc := orcT tblC) (itr := noItr0) (fuel := 300) (d := 30) mixed (orcT_ok tblC_ok) (fun _ _ _ _ h => by cases h) fun l => by kernel_rfl
theorem itrS2 : SpecI2 Tryd.prog Γ0 89 [] [.ref [nn 2]] [[.sl [nn 0, nn 1]], [.sl [nn 0, nn 2]], [.sl [nn 0, nn 3]], [.sl [nn 1, nn 2]], [.sl [nn 1, nn 3]], [.sl [nn 2, nn 3]]] := itrE_ok (orc := orcT tblC) (itr := noItr0) (fuel := 300) (d := 30) mixed (orcT_ok tblC_ok) (fun _ _ _ _ h => by cases h) fun l => by kernel_rfl
theorem itrS3 : SpecI2 Tryd.prog Γ0 89 [] [.ref [nn 3]] [[.sl [nn 0, nn 1, nn 2]], [.sl [nn 0, nn 1, nn 3]], [.sl [nn 0, nn 2, nn 3]], [.sl [nn 1, nn 2, nn 3]]] := itrE_ok (orc := orcT tblC) (itr := noItr0) (fuel := 300) (d := 30) mixed (orcT_ok tblC_ok) (fun _ _ _ _ h => by cases h) fun l => by kernel_rfl
end Go.Vm
