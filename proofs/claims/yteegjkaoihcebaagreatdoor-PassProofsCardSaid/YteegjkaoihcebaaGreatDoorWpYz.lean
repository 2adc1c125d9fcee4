import Derived.Test.YteegjkaoihcebaaGreatDoorWpUz
import Derived.Test.YteegjkaoihcebaaGreatDoorWpKz
set_option linter.all false
namespace Go.Vm
open Go.Proofs
theorem getD_set' {α : Type} {xs : List α} {i k : Nat} {v d : α} (h : i < xs.length) : (xs.set i v).getD k d = if k = i then v else xs.getD k d := by
  simp only [List.getD_eq_getElem?_getD, List.getElem?_set]
  by_cases e : k = i
  · subst e; simp [h]
  · rw [if_neg (fun h => e h.symm), if_neg e]
structure MatOk (r : PRules) (m : PMat) : Prop where
  st : r.slo ≤ m.stress ∧ m.stress ≤ r.shi
  fr : r.flo ≤ m.friction ∧ m.friction ≤ r.fhi
  ht : r.hlo ≤ m.heat ∧ m.heat ≤ r.hhi
  len : m.losses.length = r.stands.length
  los : ∀ k, k < m.losses.length → (r.stands.getD k default).llo ≤ m.losses.getD k 0 ∧ m.losses.getD k 0 ≤ (r.stands.getD k default).lhi
end Go.Vm

namespace Go.Vm
open Go.Proofs
end Go.Vm
