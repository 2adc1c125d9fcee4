import Derived.Test.YtfmkfaohhpmpaaaGreatDoorWcWX
import Derived.Test.YtfmkfaohhpmpaaaGreatDoorWcWPl
import Derived.Test.YtfmkfaohhpmpaaaGreatDoorWcWFp
set_option linter.all false
namespace Go.Vm
open Go.Proofs
set_option maxRecDepth 100000
def tblF : List (FuncId × List V × R) := [(20, [.agg [nn 200, nn 10, .sl [.agg [nn 100, nn 100, nn 0], .agg [nn 200, nn 300, nn 2]]], nn 3, .agg [nn 9000, nn 9000]], .tup [.c (.p (.agg [nn 5727, nn 6518])), .c (.p (nn 0))]), (16, [.agg [nn 200, nn 10, .sl [.agg [nn 100, nn 100, nn 0], .agg [nn 200, nn 300, nn 2]]], .agg [.sl [.agg [nn 9000, nn 9000], .agg [nn 9000, nn 9000], .agg [nn 9000, nn 9000]], .sl [.agg [nn 6000, nn 7300], .agg [nn 6000, nn 7300], .agg [nn 6000, nn 7300]]], .agg [nn 5, nn 1]], .tup [.c (.p (.sl [nn 0, nn 2, nn 2])), .c (.p (nn 11)), .c (.p (nn 0))]), (23, [.agg [nn 200, nn 10, .sl [.agg [nn 100, nn 100, nn 0], .agg [nn 200, nn 300, nn 2]]], .agg [.sl [.agg [nn 9000, nn 9000], .agg [nn 9000, nn 9000], .agg [nn 9000, nn 9000]], .sl [.agg [nn 6000, nn 7300], .agg [nn 6000, nn 7300], .agg [nn 6000, nn 7300]]]], .tup [.c (.arr 3 1 [nn 0]), .c (.p (nn 0))]), (24, [.agg [nn 200, nn 10, .sl [.agg [nn 100, nn 100, nn 0], .agg [nn 200, nn 300, nn 2]]], .sl [nn 0, nn 2, nn 2]], .tup [.c (.p (.agg [.sl [.sl [], .sl [.agg [nn 0, nn 1]]]])), .c (.p (nn 0))]), (25, [.agg [nn 200, nn 10, .sl [.agg [nn 100, nn 100, nn 0], .agg [nn 200, nn 300, nn 2]]], .sl [nn 0, nn 2, nn 2], .sl [.agg [nn 0, .b true]]], .tup [.c (.arr 3 1 [nn 1, nn 3, nn 3]), .c (.p (nn 0))]), (27, [.agg [.sl [.sl [], .sl [.agg [nn 0, nn 1]]]]], .one (.c (.p (.s ⟨#[59, 48, 32, 49]⟩))))]
theorem tblF_ok : ∀ e ∈ tblF, Sp0 e.1 e.2.1 e.2.2 := by
  intro e he
  simp only [tblF, List.mem_cons, List.not_mem_nil, or_false] at he
  rcases he with rfl | rfl | rfl | rfl | rfl | rfl
  · exact spPB
  · exact spCh
  · exact spUn
  · exact spPl
  · exact spWf
  · exact spFp
theorem spec5 : Sp0 5 [] (R.v (.b true)) :=
  fnE_ok (orc := orcT tblF) (itr := itrT tblA) (fuel := 300) (d := 40) mixed (orcT_ok tblF_ok) (itrT_ok tblA_ok) (by kernel_rfl)
end Go.Vm
