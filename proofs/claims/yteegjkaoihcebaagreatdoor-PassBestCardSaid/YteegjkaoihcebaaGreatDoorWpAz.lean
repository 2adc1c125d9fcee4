import Derived.Test.YteegjkaoihcebaaGreatDoorWpMz
import Derived.Test.YteegjkaoihcebaaGreatDoorWpAc
import Derived.Test.YteegjkaoihcebaaGreatDoorWpYz
import Derived.Test.YteegjkaoihcebaaGreatDoorWpBb
import Derived.Test.YteegjkaoihcebaaGreatDoorWpQ0
set_option linter.all false
namespace Go.Vm
open Go.Proofs
def WT (r : PRules) (In : Int → Prop) (F : D3 → Int) : Nat → Int → Int → Prop
  | 0, h, c => h = r.finish ∧ c = 0
  | j + 1, h, c => ∃ h' c', In h' ∧ h' ≤ h ∧ okS r (r.stands.length - 1 - j) h h' allN = true ∧ WT r In F j h' c' ∧ c = F (((r.stands.length - 1 - j : Nat) : Int), h, h') + c'
theorem WT.mono {r : PRules} {In In' : Int → Prop} {F : D3 → Int} (hi : ∀ h, In h → In' h) : ∀ {j : Nat} {h c : Int}, WT r In F j h c → WT r In' F j h c
  | 0, _, _, w => w
  | j + 1, h, c, ⟨h', c', w1, w2, w3, w4, w5⟩ => ⟨h', c', hi _ w1, w2, w3, WT.mono hi w4, w5⟩
section
variable {r : PRules} {T : List Int} {F : D3 → Int}
theorem GL.inj (hL : GL r T) {i j : Nat} (hi : i < T.length) (hj : j < T.length) (h : T.getD i 0 = T.getD j 0) : i = j := by
  rcases Nat.lt_trichotomy i j with h1 | h1 | h1
  · have := hL.dec i j h1 hj; omega
  · exact h1
  · have := hL.dec j i h1 hi; omega
theorem way_bound {B : Int} (hF : ∀ k p, p ∈ setK r T k allN → 0 ≤ cstK T F k p ∧ cstK T F k p ≤ B) : ∀ {j i : Nat} {c : Int}, Way r T F j i c → 0 ≤ c ∧ c ≤ B * j
  | 0, i, c, ⟨_, h⟩ => by subst h; simp
  | j + 1, i, c, ⟨q, c', h1, h2, h3⟩ => by
    have a := hF _ _ h1
    have b := way_bound hF h2
    have e : B * ((j + 1 : Nat) : Int) = B * (j : Int) + B := by rw [Int.natCast_add, Int.mul_add]; simp
    omega
end
end Go.Vm

namespace Go.Vm
open Go.Proofs
section
variable {r : PRules} {T : List Int} {F F' : D3 → Int} {s : PSched} {g : Int}
theorem way_any : ∀ {j i : Nat} {c : Int}, Way r T F j i c → ∃ c', Way r T F' j i c'
  | 0, i, c, ⟨h, _⟩ => ⟨0, h, rfl⟩
  | j + 1, i, c, ⟨q, c', h1, h2, _⟩ => by
    obtain ⟨d, h⟩ := way_any h2
    exact ⟨_, q, d, h1, h, rfl⟩
theorem best_iff (hL : GL r T) (hn : r.stands.length ≤ 6) (hF : ∀ (k i j : Nat), i ≤ j → j < T.length → 0 ≤ F ((k : Int), T.getD i 0, T.getD j 0) ∧ F ((k : Int), T.getD i 0, T.getD j 0) ≤ 1000000000000) : bestE r T F = 0 ↔ ∃ c, Way r T F r.stands.length 0 c := by
  have hK : ∀ k p, p ∈ setK r T k allN → 0 ≤ cstK T F k p ∧ cstK T F k p ≤ 1000000000000 := fun k p hp => hF k p.1 p.2 (setK_mem.1 hp).1 (setK_mem.1 hp).2.1
  unfold bestE
  constructor
  · intro h
    by_cases c : (ahJ r T F r.stands.length).getD 0 0 < nev
    · exact ⟨_, ah_way (fun k p hp => (hK k p hp).1) hL.ne c⟩
    · rw [if_neg c] at h; cases h
  · rintro ⟨c, h⟩
    have h1 := ah_le hL.ne h
    have h2 := way_bound hK h
    rw [if_pos]
    show _ < (1000000000000000 : Int)
    omega
theorem best_12 (h : bestE r T F ≠ 0) : bestE r T F = 12 := by
  unfold bestE at h ⊢
  split
  · rename_i c; rw [if_pos c] at h; exact (h rfl).elim
  · rfl
end
end Go.Vm

namespace Go.Vm
open Go.Proofs
section
variable {r : PRules} {T : List Int} {F : D3 → Int} {s : PSched} {g : Int}
abbrev ahP (r : PRules) (T : List Int) : List (List Int) := (List.range (r.stands.length + 1)).map fun k => ahJ r T (enF r) (r.stands.length - k)
end
end Go.Vm

namespace Go.Vm
open Go.Proofs
theorem heavy_no {r : PRules} {g : Int} (h0 : (rulesE r).2 = 0) (h1 : gridE r g = 0) (hw : withinV g 1 1000 = true) (h2 : heavyV r g = false) : (gridL r g).length ≤ 12 := by
  unfold heavyV at h2
  rw [decide_eq_true h0, hw, decide_eq_true h1] at h2
  simp at h2; exact h2
end Go.Vm
