import Derived.Test.YtafnpnopefamkaaVpB5
set_option linter.all false
namespace Go.Vm
open Go.Proofs
theorem belB_refl {l : List Int} : belB l l = true := belB_yes fun i _ => by omega
theorem cld_mem {ps : List (Int × Int)} {mix lo hi b : Int} {xs : List Int} {x : Fue} {m : Int} {l : List Int} : l ∈ cldN ps mix lo hi b xs x m (allC x).length ↔ l ∈ allC x ∧ fuN x l l.length < m ∧ cldC ps mix lo hi b xs x l = true := by
  unfold cldN
  rw [List.take_length, List.mem_filter, Bool.and_eq_true, Bool.not_eq_true', decide_eq_false_iff_not]
  exact ⟨fun h => ⟨h.1, by omega, h.2.2⟩, fun h => ⟨h.1, by omega, h.2.2⟩⟩
theorem hot_mem {ps : List (Int × Int)} {mix lo hi b : Int} {xs : List Int} {x : Fue} {m : Int} {l : List Int} : l ∈ hotN ps mix lo hi b xs x m (allC x).length ↔ l ∈ allC x ∧ fuN x l l.length < m ∧ cldC ps mix lo hi b xs x l = false := by
  unfold hotN
  rw [List.take_length, List.mem_filter, Bool.and_eq_true, Bool.not_eq_true', decide_eq_false_iff_not, Bool.not_eq_true']
  exact ⟨fun h => ⟨h.1, by omega, h.2.2⟩, fun h => ⟨h.1, by omega, h.2.2⟩⟩
theorem best_of {ps : List (Int × Int)} {mix lo hi b : Int} {xs : List Int} {x : Fue} {y c : List Int} (hz : bstF x (okC ps mix lo hi b xs x) = some y) (hc : c ∈ allC x) (hk : okC ps mix lo hi b xs x c = true) : fuN x y y.length ≤ fuN x c c.length := by
  obtain ⟨z, h1, h2⟩ := bstN_le (x := x) (ok := okC ps mix lo hi b xs x) (C := allC x) (n := (allC x).length) c (by rw [List.take_length]; exact hc) hk
  have h3 : some y = some z := hz.symm.trans h1
  cases h3; exact h2
theorem own_proof {ps : List (Int × Int)} {mix lo hi b : Int} {xs : List Int} {x : Fue} {y : List Int} (hz : bstF x (okC ps mix lo hi b xs x) = some y) : chkV ps mix lo hi b xs x y (cldN ps mix lo hi b xs x (fuN x y y.length) (allC x).length) (hotN ps mix lo hi b xs x (fuN x y y.length) (allC x).length) = ([], 0) := by
  obtain ⟨m1, m2⟩ := bstN_mem hz
  have e1 : chsE x (List.flatten [[y], cldN ps mix lo hi b xs x (fuN x y y.length) (allC x).length, hotN ps mix lo hi b xs x (fuN x y y.length) (allC x).length]) = 0 := by
    refine chsE_zero fun c hc => ?_
    simp only [List.flatten_cons, List.flatten_nil, List.append_nil, List.mem_append, List.mem_singleton] at hc
    rcases hc with rfl | hc | hc
    · exact all_cho m1
    · exact all_cho (cld_mem.1 hc).1
    · exact all_cho (hot_mem.1 hc).1
  unfold chkV
  rw [e1, if_neg (fun k => k rfl), m2, if_neg (by decide)]
  have e2 : (cldN ps mix lo hi b xs x (fuN x y y.length) (allC x).length).any (fun c => !cldC ps mix lo hi b xs x c) = false := by
    rw [List.any_eq_false]
    intro c hc
    rw [(cld_mem.1 hc).2.2]; decide
  have e3 : (hotN ps mix lo hi b xs x (fuN x y y.length) (allC x).length).any (fun c => !hotC ps mix lo hi b xs x c) = false := by
    rw [List.any_eq_false]
    intro c hc
    obtain ⟨a1, a2, a3⟩ := hot_mem.1 hc
    cases k : hotC ps mix lo hi b xs x c with
    | true => decide
    | false =>
      have hk : okC ps mix lo hi b xs x c = true := by
        show (!cldC ps mix lo hi b xs x c && !hotC ps mix lo hi b xs x c) = true
        rw [a3, k]; rfl
      have := best_of hz a1 hk
      omega
  rw [e2, e3, Bool.or_false, if_neg (by decide)]
  have e4 : (allC x).find? (outB x (cldN ps mix lo hi b xs x (fuN x y y.length) (allC x).length) (hotN ps mix lo hi b xs x (fuN x y y.length) (allC x).length) (fuN x y y.length)) = none := by
    rw [List.find?_eq_none]
    intro l hl hk
    unfold outB at hk
    simp only [Bool.and_eq_true, decide_eq_true_eq, Bool.not_eq_true'] at hk
    obtain ⟨k1, k2, k3⟩ := hk
    rw [List.any_eq_false] at k2 k3
    cases k : cldC ps mix lo hi b xs x l with
    | true => exact k2 l (cld_mem.2 ⟨hl, k1, k⟩) belB_refl
    | false => exact k3 l (hot_mem.2 ⟨hl, k1, k⟩) belB_refl
  rw [e4]; rfl
end Go.Vm
