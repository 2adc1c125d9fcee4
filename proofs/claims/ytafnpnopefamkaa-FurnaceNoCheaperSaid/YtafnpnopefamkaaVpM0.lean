import Derived.Test.YtafnpnopefamkaaVpL
set_option linter.all false
namespace Go.Vm
open Go.Proofs
set_option maxRecDepth 20000
set_option maxHeartbeats 8000000
theorem BeamOk.mem {xs : List Int} {b : Int} (h : BeamOk xs b) : ∀ n ∈ xs, 1 ≤ n ∧ n ≤ 200 := fun n hn => by
  obtain ⟨i, hi, rfl⟩ := List.getElem_of_mem hn
  have := h.pos i hi
  simpa [List.getD, hi] using this
end Go.Vm
