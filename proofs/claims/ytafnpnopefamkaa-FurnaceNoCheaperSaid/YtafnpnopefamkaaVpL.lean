import Derived.Test.YtafnpnopefamkaaVpN1
set_option linter.all false
namespace Go.Vm
open Go.Proofs
set_option maxRecDepth 20000
set_option maxHeartbeats 8000000
structure BeamOk (xs : List Int) (b : Int) : Prop where
  len : 0 < xs.length ∧ xs.length ≤ 5
  beat : 1 ≤ b ∧ b ≤ 1000
  pos : ∀ i, i < xs.length → 1 ≤ xs.getD i 0 ∧ xs.getD i 0 ≤ 200
end Go.Vm
