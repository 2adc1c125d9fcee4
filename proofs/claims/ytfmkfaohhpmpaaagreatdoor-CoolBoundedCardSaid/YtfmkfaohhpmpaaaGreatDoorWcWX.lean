import Derived.Test.YtfmkfaohhpmpaaaGreatDoorWcW1
set_option linter.all false
namespace Go.Vm
open Go.Proofs
set_option maxRecDepth 100000
theorem spPB : Sp0 20 [.agg [nn 200, nn 10, .sl [.agg [nn 100, nn 100, nn 0], .agg [nn 200, nn 300, nn 2]]], nn 3, .agg [nn 9000, nn 9000]] (.tup [.c (.p (.agg [nn 5727, nn 6518])), .c (.p (nn 0))]) :=
  fnE_ok (orc := orcT tblC) (itr := itrT tblA) (fuel := 300) (d := 40) mixed (orcT_ok tblC_ok) (itrT_ok tblA_ok) (by kernel_rfl)
end Go.Vm

namespace Go.Vm
open Go.Proofs
set_option maxRecDepth 100000
theorem spCh : Sp0 16 [.agg [nn 200, nn 10, .sl [.agg [nn 100, nn 100, nn 0], .agg [nn 200, nn 300, nn 2]]], .agg [.sl [.agg [nn 9000, nn 9000], .agg [nn 9000, nn 9000], .agg [nn 9000, nn 9000]], .sl [.agg [nn 6000, nn 7300], .agg [nn 6000, nn 7300], .agg [nn 6000, nn 7300]]], .agg [nn 5, nn 1]] (.tup [.c (.p (.sl [nn 0, nn 2, nn 2])), .c (.p (nn 11)), .c (.p (nn 0))]) :=
  fnE_ok (orc := orcT tblC) (itr := itrT tblA) (fuel := 300) (d := 40) mixed (orcT_ok tblC_ok) (itrT_ok tblA_ok) (by kernel_rfl)
end Go.Vm

namespace Go.Vm
open Go.Proofs
set_option maxRecDepth 100000
theorem spUn : Sp0 23 [.agg [nn 200, nn 10, .sl [.agg [nn 100, nn 100, nn 0], .agg [nn 200, nn 300, nn 2]]], .agg [.sl [.agg [nn 9000, nn 9000], .agg [nn 9000, nn 9000], .agg [nn 9000, nn 9000]], .sl [.agg [nn 6000, nn 7300], .agg [nn 6000, nn 7300], .agg [nn 6000, nn 7300]]]] (.tup [.c (.arr 3 1 [nn 0]), .c (.p (nn 0))]) :=
  fnE_ok (orc := orcT tblC) (itr := itrT tblA) (fuel := 300) (d := 40) mixed (orcT_ok tblC_ok) (itrT_ok tblA_ok) (by kernel_rfl)
end Go.Vm

namespace Go.Vm
open Go.Proofs
set_option maxRecDepth 100000
theorem spWf : Sp0 25 [.agg [nn 200, nn 10, .sl [.agg [nn 100, nn 100, nn 0], .agg [nn 200, nn 300, nn 2]]], .sl [nn 0, nn 2, nn 2], .sl [.agg [nn 0, .b true]]] (.tup [.c (.arr 3 1 [nn 1, nn 3, nn 3]), .c (.p (nn 0))]) :=
  fnE_ok (orc := orcT tblC) (itr := itrT tblA) (fuel := 300) (d := 40) mixed (orcT_ok tblC_ok) (itrT_ok tblA_ok) (by kernel_rfl)
end Go.Vm
