import Derived.Test.YtangomlmapjdcaaWcF
import Derived.Test.YtangomlmapjdcaaVmBE
set_option linter.all false
/- The examples of chapter 8 that the law across the layers asks, by evaluation. -/
namespace Go.Vm
open Go.Proofs
set_option maxRecDepth 100000
theorem tshPB : Sp0 14 [.agg [nn 200, nn 10, .sl [.agg [nn 100, nn 100, nn 0], .agg [nn 200, nn 300, nn 2]]], nn 3, .agg [nn 9000, nn 9000]] (.tup [.c (.p (.agg [nn 5727, nn 6518])), .c (.p (nn 0))]) :=
  fnE_ok (orc := fun _ _ => none) (itr := fun _ _ _ => none) (fuel := 300) (d := 40) mixed (fun _ _ _ h => by cases h) (fun _ _ _ _ h => by cases h) (by kernel_rfl)
theorem tshSo : Sp0 16 [.agg [nn 200, nn 10, .sl [.agg [nn 100, nn 100, nn 0], .agg [nn 200, nn 300, nn 2]]], .agg [.sl [.sl [], .sl [.agg [nn 0, nn 1]]]], nn 3] (.tup [.c (.arr 3 1 [nn 0, nn 2, nn 2]), .c (.p (nn 0))]) :=
  fnE_ok (orc := fun _ _ => none) (itr := fun _ _ _ => none) (fuel := 300) (d := 40) mixed (fun _ _ _ h => by cases h) (fun _ _ _ _ h => by cases h) (by kernel_rfl)
def tblT : List (FuncId × List V × R) := [(14, [.agg [nn 200, nn 10, .sl [.agg [nn 100, nn 100, nn 0], .agg [nn 200, nn 300, nn 2]]], nn 3, .agg [nn 9000, nn 9000]], .tup [.c (.p (.agg [nn 5727, nn 6518])), .c (.p (nn 0))]), (16, [.agg [nn 200, nn 10, .sl [.agg [nn 100, nn 100, nn 0], .agg [nn 200, nn 300, nn 2]]], .agg [.sl [.sl [], .sl [.agg [nn 0, nn 1]]]], nn 3], .tup [.c (.arr 3 1 [nn 0, nn 2, nn 2]), .c (.p (nn 0))])]
theorem tblT_ok : ∀ e ∈ tblT, Sp0 e.1 e.2.1 e.2.2 := by
  intro e he
  simp only [tblT, List.mem_cons, List.not_mem_nil, or_false] at he
  rcases he with rfl | rfl
  · exact tshPB
  · exact tshSo
theorem spec4 : Sp0 4 [] (R.v (.b true)) :=
  fnE_ok (orc := orcT tblT) (itr := fun _ _ _ => none) (fuel := 300) (d := 40) mixed (orcT_ok tblT_ok) (fun _ _ _ _ h => by cases h) (by kernel_rfl)
end Go.Vm
