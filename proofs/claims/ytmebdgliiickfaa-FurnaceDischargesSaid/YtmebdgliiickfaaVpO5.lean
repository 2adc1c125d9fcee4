import Derived.Test.YtmebdgliiickfaaVpO3
set_option linter.all false
namespace Go.Vm
open Go.Proofs
set_option maxRecDepth 20000
/-! A route with more steps in its last zone, in plain Lean. -/
def moreR (route : List (Int × Int)) (n : Nat) : List (Int × Int) := route.set (route.length - 1) ((route.getD (route.length - 1) default).1, (route.getD (route.length - 1) default).2 + (n : Int))
theorem moreR_len {route : List (Int × Int)} {n : Nat} : (moreR route n).length = route.length := by simp [moreR]
theorem moreR_map {route : List (Int × Int)} {n : Nat} : (route.map p2).set (route.length - 1) (p2 ((route.getD (route.length - 1) default).1, (route.getD (route.length - 1) default).2 + (n : Int))) = (moreR route n).map p2 := by simp [moreR]
theorem moreR_last {route : List (Int × Int)} {n : Nat} (h : 1 ≤ route.length) : (moreR route n).getD (route.length - 1) default = ((route.getD (route.length - 1) default).1, (route.getD (route.length - 1) default).2 + (n : Int)) := by
  have : route.length - 1 < route.length := by omega
  simp [moreR, List.getD, this]
theorem moreR_other {route : List (Int × Int)} {n i : Nat} (h : i ≠ route.length - 1) : (moreR route n).getD i default = route.getD i default := by
  simp [moreR, List.getD, List.getElem?_set, Ne.symm h]
theorem encSteps_add {ps : List (Int × Int)} {mix lo hi b set : Int} {x : List Int × List Int} {m : Nat} : ∀ {n : Nat}, encSteps ps mix lo hi b set x (m + n) = encSteps ps mix lo hi b set (encSteps ps mix lo hi b set x m) n
  | 0 => rfl
  | n + 1 => by rw [Nat.add_succ]; simp only [encSteps]; rw [encSteps_add]
theorem encN_congr {ps : List (Int × Int)} {mix lo hi b : Int} {x : List Int × List Int} {r1 r2 : List (Int × Int)} : ∀ {k : Nat}, (∀ i, i < k → r1.getD i default = r2.getD i default) → encN ps mix lo hi b x r1 k = encN ps mix lo hi b x r2 k
  | 0, _ => rfl
  | k + 1, h => by simp only [encN]; rw [encN_congr fun i hi => h i (by omega), h k (by omega)]
theorem encN_more {ps : List (Int × Int)} {mix lo hi b : Int} {xs : List Int} {route : List (Int × Int)} {n : Nat} (h1 : 1 ≤ route.length) (h2 : 0 ≤ (route.getD (route.length - 1) default).2) : encN ps mix lo hi b (xs, xs) (moreR route n) (moreR route n).length = furE ps mix lo hi b xs route n := by
  obtain ⟨L, hL⟩ : ∃ L, route.length = L + 1 := ⟨route.length - 1, by omega⟩
  have e := moreR_last (n := n) h1
  unfold furE
  rw [moreR_len, hL]
  rw [hL] at e h2
  simp only [Nat.add_sub_cancel] at e h2 ⊢
  simp only [encN]
  rw [e, encN_congr (r1 := moreR route n) (r2 := route) fun i hi => moreR_other (by omega)]
  simp only
  rw [show ((route.getD L default).2 + (n : Int)).toNat = (route.getD L default).2.toNat + n by omega, encSteps_add]
theorem route_ok2 {route : List (Int × Int)} (h : (routeV route).2 = 0) : route.length ≤ 5 ∧ ∀ i, i < route.length → withinV (route.getD i default).1 0 20000 = true ∧ withinV (route.getD i default).2 0 200 = true := by
  unfold routeV at h
  split at h
  · simp at h
  · rename_i h5
    refine ⟨by omega, fun i hi => ?_⟩
    split at h
    · simp at h
    · rename_i hp
      unfold idxV at hp
      cases hf : route.findIdx? (fun n => !withinV n.1 0 20000 || !withinV n.2 0 200) with
      | some k => rw [hf] at hp; simp at hp
      | none =>
        rw [List.findIdx?_eq_none_iff] at hf
        have h1 := hf route[i] (List.getElem_mem hi)
        rw [List.getD_eq_getElem?_getD, List.getElem?_eq_getElem hi, Option.getD_some]
        revert h1
        cases withinV route[i].1 0 20000 <;> cases withinV route[i].2 0 200 <;> simp
theorem route_in {route : List (Int × Int)} (h5 : route.length ≤ 5) (h : ∀ i, i < route.length → withinV (route.getD i default).1 0 20000 = true ∧ withinV (route.getD i default).2 0 200 = true) : (routeV route).2 = 0 := by
  unfold routeV
  rw [if_neg (by omega), findIdx_no default fun j hj => by rw [(h j hj).1, (h j hj).2]; rfl]
  simp
theorem gE_more {route : List (Int × Int)} {ta tb : Int} {n : Nat} (h1 : 1 ≤ route.length) (h : gE route ta tb = 0) (h2 : (route.getD (route.length - 1) default).2 + (n : Int) ≤ 200) : gE (moreR route n) ta tb = 0 := by
  unfold gE at h ⊢
  simp only [firstV_cons, firstV_nil] at h ⊢
  have hr : (routeV route).2 = 0 := by
    by_cases h3 : (routeV route).2 = 0
    · exact h3
    · rw [if_neg h3] at h; exact (h3 h).elim
  obtain ⟨o1, o2⟩ := route_ok2 hr
  have hm : (routeV (moreR route n)).2 = 0 := by
    refine route_in (by rw [moreR_len]; exact o1) fun i hi => ?_
    rw [moreR_len] at hi
    by_cases e : i = route.length - 1
    · subst e
      rw [moreR_last h1]
      obtain ⟨p, q⟩ := o2 _ hi
      refine ⟨p, ?_⟩
      simp only [withinV, Bool.and_eq_true, decide_eq_true_eq] at q ⊢
      omega
    · rw [moreR_other e]; exact o2 i hi
  rw [if_pos hr] at h
  rw [if_pos hm, moreR_len]
  exact h
theorem goal_split {ps : List (Int × Int)} {mix lo hi : Int} {xs : List Int} {b : Int} {route : List (Int × Int)} {ta tb : Int} : goalE ps mix lo hi xs b route ta tb = if (if rulesErrV ps mix lo hi ≠ 0 then rulesErrV ps mix lo hi else slabErrV xs b) = 0 then gE route ta tb else (if rulesErrV ps mix lo hi ≠ 0 then rulesErrV ps mix lo hi else slabErrV xs b) := by
  unfold goalE gE
  simp only [firstV_cons, firstV_nil]
  by_cases h3 : rulesErrV ps mix lo hi = 0 <;> by_cases h4 : slabErrV xs b = 0 <;> simp [h3, h4]
end Go.Vm
