import Derived.Test.YtbbcjhodcgakcaaDoorWpW1
set_option linter.all false
namespace Go.Vm
open Go.Proofs
set_option maxRecDepth 100000
theorem spRo : Sp0 28 [.agg [nn 10, nn 100, nn 60, nn 10000, nn 10000, nn 9000, .sl [.agg [nn 300, nn 20000, nn 400000, nn 0, nn 100], .agg [nn 300, nn 20000, nn 400000, nn 0, nn 100]], nn 2, nn 3, nn 7, nn 8], .agg [.s ⟨#[98, 101, 115, 116]⟩, .sl [nn 80, nn 60]], .agg [nn 2, nn 8, nn 10000, .sl [nn 50, nn 50]]] (.tup [.c (.arr 75 2 [.agg [nn 49752, nn 5], .agg [nn 49504, nn 5]]), .c (.p (.b true)), .c (.p (nn 0))]) :=
 fnE_ok (orc := orcT tblC) (itr := itrT tblA) (fuel := 300) (d := 40) mixed (orcT_ok tblC_ok) (itrT_ok tblA_ok) (by kernel_rfl)
end Go.Vm
