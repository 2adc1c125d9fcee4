import Derived.Test.YtaoocondfgkpnaaGreatDoorWpP
set_option linter.all false
/- The margins, times 100, and their bounds: plain. -/
namespace Go.Vm
open Go.Proofs
set_option maxRecDepth 20000
set_option maxHeartbeats 8000000
abbrev LS (r : PRules) : List (Int × Int) := lossL r.stands r.stands.length
theorem los_ok {r : PRules} (hr : RulOk r) : LosOk (LS r) := by
  intro i hi
  unfold LS at hi ⊢
  rw [lossL_len] at hi
  rw [lossL_at hi]
  have h1 := sumT_ok hr (n := i + 1) (by omega)
  have h2 := hr.len
  omega
structure MHyp (r : PRules) (k : Nat) (b a : Int) : Prop where
  hr : RulOk r
  hk : k < r.stands.length
  h1 : 1 ≤ b ∧ b ≤ 1000
  h2 : 1 ≤ a ∧ a ≤ 1000
  le : a ≤ b
  st : a ≤ r.start
end Go.Vm
