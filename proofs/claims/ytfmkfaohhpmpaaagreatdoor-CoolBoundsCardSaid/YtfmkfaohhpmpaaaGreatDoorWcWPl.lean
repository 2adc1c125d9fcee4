import Derived.Test.YtfmkfaohhpmpaaaGreatDoorWcW1
import Derived.Test.YtfmkfaohhpmpaaaGreatDoorWcI
set_option linter.all false
namespace Go.Vm
open Go.Proofs
set_option maxRecDepth 100000
theorem spCnt : Sp0 56 [nn (3 : Nat)] (R.v (nn 0)) :=
  fnE_ok (orc := orcT tblC) (itr := itrT tblA) (fuel := 300) (d := 40) mixed (orcT_ok tblC_ok) (itrT_ok tblA_ok) (by kernel_rfl)
abbrev exTw : CTab := ⟨200, 10, [⟨100, 100, 0⟩, ⟨200, 300, 2⟩]⟩
theorem spSe : Sp0 57 [ctV exTw, .sl (([0, 2, 2] : List Int).map nn)] (R.v (nn 0)) :=
  fnE_ok (orc := orcT tblC) (itr := itrT tblA) (fuel := 300) (d := 40) mixed (orcT_ok tblC_ok) (itrT_ok tblA_ok) (by kernel_rfl)
theorem spPl : Sp0 24 [.agg [nn 200, nn 10, .sl [.agg [nn 100, nn 100, nn 0], .agg [nn 200, nn 300, nn 2]]], .sl [nn 0, nn 2, nn 2]] (.tup [.c (.p (.agg [.sl [.sl [], .sl [.agg [nn 0, nn 1]]]])), .c (.p (nn 0))]) :=
  plan_of exTw [0, 2, 2] (by decide) (by decide) spCnt spSe (fun i hi => by
    match i, hi with
    | 0, _ => exact ⟨0, rfl, by omega⟩
    | 1, _ => exact ⟨2, rfl, by omega⟩
    | 2, _ => exact ⟨2, rfl, by omega⟩)
end Go.Vm
