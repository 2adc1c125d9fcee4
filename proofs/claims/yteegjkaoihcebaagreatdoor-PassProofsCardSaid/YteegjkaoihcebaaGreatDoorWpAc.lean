import Derived.Test.YteegjkaoihcebaaGreatDoorVmBC
import Derived.Test.YteegjkaoihcebaaGreatDoorWpAb
import Derived.Test.YteegjkaoihcebaaGreatDoorWpL
set_option linter.all false
namespace Go.Vm
open Go.Proofs
set_option maxRecDepth 20000
set_option maxHeartbeats 8000000
def nxS (r : PRules) (T : List Int) (F : D3 → Int) (k at' : Nat) (nx : Nat) (p : Nat × Nat) : Nat := if p.1 = at' ∧ cstK T F k p + (ahJ r T F (r.stands.length - (k + 1))).getD p.2 0 = (ahJ r T F (r.stands.length - k)).getD at' 0 then p.2 else nx
def chA (r : PRules) (T : List Int) (F : D3 → Int) : Nat → Nat
  | 0 => 0
  | k + 1 => (setK r T k allN).foldl (nxS r T F k (chA r T F k)) (chA r T F k)
theorem nx_fold {r : PRules} {T : List Int} {F : D3 → Int} {k at' : Nat} {P : Nat → Prop} : ∀ {l : List (Nat × Nat)} {x : Nat}, P x → (∀ p ∈ l, P p.2) → P (l.foldl (nxS r T F k at') x)
  | [], _, h, _ => h
  | p :: l, x, h, hp => by
    rw [List.foldl_cons]
    refine nx_fold ?_ fun q hq => hp q (by simp [hq])
    unfold nxS; split
    · exact hp p (by simp)
    · exact h
theorem chA_lt {r : PRules} {T : List Int} {F : D3 → Int} (hT : 0 < T.length) : ∀ {k : Nat}, chA r T F k < T.length
  | 0 => hT
  | k + 1 => nx_fold (P := fun x => x < T.length) (chA_lt hT) fun p hp => (setK_mem.1 hp).2.1
def thsB (r : PRules) (T : List Int) (F : D3 → Int) (n : Nat) : List Int := (List.range n).map fun k => T.getD (chA r T F (k + 1)) 0
theorem thsB_succ {r : PRules} {T : List Int} {F : D3 → Int} {n : Nat} : thsB r T F (n + 1) = thsB r T F n ++ [T.getD (chA r T F (n + 1)) 0] := by simp [thsB, List.range_succ]
theorem ahV_at {r : PRules} {T : List Int} {F : D3 → Int} {k : Nat} (h : k ≤ r.stands.length) : (((List.range (r.stands.length + 1)).map fun k => ahJ r T F (r.stands.length - k)).getD k default) = ahJ r T F (r.stands.length - k) := by
  simp [List.getD_eq_getElem?_getD, List.getElem?_range (show k < r.stands.length + 1 by omega)]
abbrev bestN : ByteArray := ⟨#[98, 101, 115, 116]⟩
end Go.Vm
