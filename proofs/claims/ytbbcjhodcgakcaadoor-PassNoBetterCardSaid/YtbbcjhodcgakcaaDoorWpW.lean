import Derived.Test.YtbbcjhodcgakcaaDoorWpWHF
import Derived.Test.YtbbcjhodcgakcaaDoorWpWCh
import Derived.Test.YtbbcjhodcgakcaaDoorWpWBl
import Derived.Test.YtbbcjhodcgakcaaDoorWpWLe
import Derived.Test.YtbbcjhodcgakcaaDoorWpWRo
set_option linter.all false
namespace Go.Vm
open Go.Proofs
set_option maxRecDepth 100000
def tblF : List (FuncId × List V × R) := [(19, [.agg [nn 10, nn 100, nn 60, nn 10000, nn 10000, nn 9000, .sl [.agg [nn 300, nn 20000, nn 400000, nn 0, nn 100], .agg [nn 300, nn 20000, nn 400000, nn 0, nn 100]], nn 2, nn 3, nn 7, nn 8], .agg [.s ⟨#[98, 101, 115, 116]⟩, .sl [nn 80, nn 60]]], .tup [.c (.p (nn 2)), .c (.p (nn 0))]), (15, [.agg [nn 10, nn 100, nn 60, nn 10000, nn 10000, nn 9000, .sl [.agg [nn 300, nn 20000, nn 400000, nn 0, nn 100], .agg [nn 300, nn 20000, nn 400000, nn 0, nn 100]], nn 2, nn 3, nn 7, nn 8], nn 10], .tup [.agg [.p (.s ⟨#[98, 101, 115, 116]⟩), .arr 3 1 [nn 80, nn 60]], .c (.p (nn 536000)), .c (.p (nn 0))]), (10, [.agg [nn 10, nn 100, nn 60, nn 10000, nn 10000, nn 9000, .sl [.agg [nn 300, nn 20000, nn 400000, nn 0, nn 100]], nn 2, nn 3, nn 7, nn 8], nn 10], .tup [.c (.p (.agg [nn 0, .sl [nn 1]])), .c (.p (nn 0))]), (27, [.agg [nn 10, nn 100, nn 60, nn 10000, nn 10000, nn 9000, .sl [.agg [nn 300, nn 20000, nn 400000, nn 0, nn 100], .agg [nn 300, nn 20000, nn 400000, nn 0, nn 100]], nn 2, nn 3, nn 7, nn 8], .agg [.s ⟨#[98, 101, 115, 116]⟩, .sl [nn 80, nn 60]], nn 300], .tup [.c (.arr 75 2 [.agg [nn 375, nn 1], .agg [nn 500, nn 1]]), .c (.p (nn 0))]), (28, [.agg [nn 10, nn 100, nn 60, nn 10000, nn 10000, nn 9000, .sl [.agg [nn 300, nn 20000, nn 400000, nn 0, nn 100], .agg [nn 300, nn 20000, nn 400000, nn 0, nn 100]], nn 2, nn 3, nn 7, nn 8], .agg [.s ⟨#[98, 101, 115, 116]⟩, .sl [nn 80, nn 60]], .agg [nn 2, nn 8, nn 10000, .sl [nn 50, nn 50]]], .tup [.c (.arr 75 2 [.agg [nn 49752, nn 5], .agg [nn 49504, nn 5]]), .c (.p (.b true)), .c (.p (nn 0))])]
theorem tblF_ok : ∀ e ∈ tblF, Sp0 e.1 e.2.1 e.2.2 := by
 intro e he
 simp only [tblF, List.mem_cons, List.not_mem_nil, or_false] at he
 rcases he with rfl | rfl | rfl | rfl | rfl
 ·
  exact spHF
 ·
  exact spCh
 ·
  exact spBl
 ·
  exact spLe
 ·
  exact spRo
theorem spec5 : Sp0 5 [] (R.v (.b true)) :=
 fnE_ok (orc := orcT tblF) (itr := itrT tblA) (fuel := 300) (d := 40) mixed (orcT_ok tblF_ok) (itrT_ok tblA_ok) (by kernel_rfl)
end Go.Vm
