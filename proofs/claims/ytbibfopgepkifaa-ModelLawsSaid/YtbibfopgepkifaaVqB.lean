import Derived.Test.YtbibfopgepkifaaVmBC
import Derived.Test.YtbibfopgepkifaaVqA
set_option linter.all false
namespace Go.Vm
open Go.Proofs
set_option maxRecDepth 20000
set_option maxHeartbeats 8000000
/-- A table that may be asked. -/
structure TabOk (ps : List (Int × Int)) : Prop where
  len : 0 < ps.length ∧ ps.length ≤ 12
  rng : ∀ i, i < ps.length → 0 ≤ (ps.getD i default).1 ∧ (ps.getD i default).1 ≤ 20000 ∧ 1 ≤ (ps.getD i default).2 ∧ (ps.getD i default).2 ≤ 100000
  srt : ∀ i, 0 < i → i < ps.length → (ps.getD (i - 1) default).1 < (ps.getD i default).1
end Go.Vm
