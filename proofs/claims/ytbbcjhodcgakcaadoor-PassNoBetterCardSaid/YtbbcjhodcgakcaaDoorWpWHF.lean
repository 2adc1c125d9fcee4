import Derived.Test.YtbbcjhodcgakcaaDoorWpW1
set_option linter.all false
namespace Go.Vm
open Go.Proofs
set_option maxRecDepth 100000
theorem spHF : Sp0 19 [.agg [nn 10, nn 100, nn 60, nn 10000, nn 10000, nn 9000, .sl [.agg [nn 300, nn 20000, nn 400000, nn 0, nn 100], .agg [nn 300, nn 20000, nn 400000, nn 0, nn 100]], nn 2, nn 3, nn 7, nn 8], .agg [.s ⟨#[98, 101, 115, 116]⟩, .sl [nn 80, nn 60]]] (.tup [.c (.p (nn 2)), .c (.p (nn 0))]) :=
 fnE_ok (orc := orcT tblC) (itr := itrT tblA) (fuel := 300) (d := 40) mixed (orcT_ok tblC_ok) (itrT_ok tblA_ok) (by kernel_rfl)
end Go.Vm
