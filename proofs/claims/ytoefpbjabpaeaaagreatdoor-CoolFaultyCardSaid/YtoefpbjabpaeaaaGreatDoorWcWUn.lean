import Derived.Test.YtoefpbjabpaeaaaGreatDoorWcW1
set_option linter.all false
namespace Go.Vm
open Go.Proofs
set_option maxRecDepth 100000
theorem spUn : Sp0 30 [.agg [nn 200, nn 10, .sl [.agg [nn 100, nn 100, nn 0], .agg [nn 200, nn 300, nn 2]]], .agg [.sl [.agg [nn 9000, nn 9000], .agg [nn 9000, nn 9000], .agg [nn 9000, nn 9000]], .sl [.agg [nn 6000, nn 7300], .agg [nn 6000, nn 7300], .agg [nn 6000, nn 7300]]]] (.tup [.c (.arr 3 1 [nn 0]), .c (.p (nn 0))]) :=
  fnE_ok (orc := orcT tblC) (itr := itrT tblA) (fuel := 300) (d := 40) mixed (orcT_ok tblC_ok) (itrT_ok tblA_ok) (by kernel_rfl)
end Go.Vm
