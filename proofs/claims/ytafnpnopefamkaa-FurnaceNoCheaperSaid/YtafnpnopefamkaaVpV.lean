import Derived.Test.YtafnpnopefamkaaVpU
import Derived.Test.YtafnpnopefamkaaVpM0
set_option linter.all false
namespace Go.Vm
open Go.Proofs
set_option maxRecDepth 20000
set_option maxHeartbeats 8000000
structure NodesI (n : Nat) (xs : List Int) : Prop where
  len : xs.length = n
  rng : BtwL 0 20000 xs
theorem NodesI.ok {n : Nat} {xs : List Int} (h : NodesI n xs) (h2 : 2 ≤ n ∧ n ≤ 8) : NodesOk xs := by
  have h1 := h.len
  exact ⟨by omega, by omega, fun i hi => by have := h.rng i hi; omega⟩
end Go.Vm
