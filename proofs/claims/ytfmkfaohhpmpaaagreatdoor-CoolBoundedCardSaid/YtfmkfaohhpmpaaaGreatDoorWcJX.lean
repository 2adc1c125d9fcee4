import Derived.Test.YtfmkfaohhpmpaaaGreatDoorWcF
import Derived.Test.YtfmkfaohhpmpaaaGreatDoorVmBE
import Derived.Test.YtfmkfaohhpmpaaaGreatDoorWcSh
set_option linter.all false
namespace Go.Vm
open Go.Proofs
set_option maxRecDepth 100000
/-- Numbers from 0 to 99 as words. -/
theorem spItoa (i : Nat) (hi : i < 100) : Sp0 93 [nn i] (R.v (.s ⟨(Lib.decDigits i).toArray⟩)) := by
  refine spec_ret (.string ⟨(Lib.decDigits i).toArray⟩) (enters_of Tryz.func93 (by decide +kernel) rfl) rfl (fun St w B => ?_) (fun St w vs hm => ?_)
  · simp [R.v, repR, repR1, repRC, rep, repC, Value.cells, Value.isAgg, V.isAgg]
  · obtain ⟨r, rfl, h2⟩ := met_i hm.args
    obtain rfl := met_nil h2
    exact (Tryz.strconv_Itoa_small i hi w).mono fun e w' ⟨h1, h2⟩ => ⟨h1, h2 ▸ RowKit.Below.refl _ _⟩
end Go.Vm

namespace Go.Vm
open Go.Proofs
set_option maxRecDepth 100000
/-- The cells of a slice of strings. -/
theorem strs_cells {St : Nat → Nat → Prop} {rd : Nat → Nat → Option Value} {b sz : Nat} : ∀ {xs : List ByteArray} {o : Nat}, repE St rd (xs.map V.s) b sz o → ∀ j x, xs[j]? = some x → sz = 1 ∧ rd b (o + j) = some (.string x) ∧ St b (o + j)
  | [], _, _, j, x, h => by simp at h
  | y :: ys, o, h, j, x, hj => by
    simp only [List.map_cons, repE] at h
    obtain ⟨⟨vs, h1, h2, h3⟩, h4⟩ := h
    simp only [repC] at h3
    subst h3
    have e1 : sz = 1 := by simpa using h1.symm
    subst e1
    cases j with
    | zero =>
      simp only [List.getElem?_cons_zero, Option.some.injEq] at hj
      subst hj
      simp only [cellsAt] at h2
      exact ⟨rfl, by simpa using h2.1⟩
    | succ j =>
      have := strs_cells h4 j x (by simpa using hj)
      rw [show o + 1 + j = o + (j + 1) by omega] at this
      exact this
abbrev joinV (xs : List ByteArray) (sep : ByteArray) : ByteArray := ⟨(Lib.join (xs.map (·.data.toList)) sep.data.toList).toArray⟩
theorem spJoin (xs : List ByteArray) (sep : ByteArray) (hN : xs.length ≤ 140737488355328) (hlen : (Lib.join (xs.map (·.data.toList)) sep.data.toList).length ≤ 140737488355328) : Sp0 72 [.sl (xs.map V.s), .s sep] (R.v (.s (joinV xs sep))) := by
  refine spec_ret (.string (joinV xs sep)) (enters_of Tryz.func72 (by decide +kernel) rfl) rfl (fun St w B => ?_) (fun St w vs hm => ?_)
  · simp [R.v, repR, repR1, repRC, rep, repC, Value.cells, Value.isAgg, V.isAgg]
  · have ha := hm.args
    simp only [repT] at ha
    obtain ⟨v, r, rfl, ⟨h1, h2⟩, u, r2, rfl, ⟨h3, h4⟩, rfl⟩ := ha
    have hu : u = .string sep := by
      simp only [repC] at h3
      cases u <;> simp_all [Value.cells, Value.isAgg, V.isAgg]
    subst hu
    have hv : v.cells.toList = [v] := by cases v <;> simp_all [Value.cells, Value.isAgg, V.isAgg]
    rw [hv] at h1
    simp only [repC] at h1
    rcases h1 with ⟨hx, a, c, hc⟩ | ⟨b, o, cap, sz, hc, hcap, hE⟩
    · have hx' : xs = [] := by simpa using hx
      subst hx'
      have : v = .slice a 0 c := by simpa using hc
      subst this
      exact (Tryz.strings_Join_none a c sep w).mono fun e w' ⟨h1, h2⟩ => ⟨h1, h2 ▸ RowKit.Below.refl _ _⟩
    · have : v = .slice (some ⟨b, o, none⟩) xs.length cap := by simpa using hc
      subst this
      cases hxs : xs with
      | nil =>
        subst hxs
        exact (Tryz.strings_Join_none (some ⟨b, o, none⟩) cap sep w).mono fun e w' ⟨h1, h2⟩ => ⟨h1, h2 ▸ RowKit.Below.refl _ _⟩
      | cons y ys =>
        have hcl := strs_cells hE
        rw [← hxs]
        refine Tryz.strings_Join b o cap xs sep w (fun j x hj => ?_) ?_ hN (by simpa using hcap) hlen
        · have := (hcl j x hj).2.1
          exact this
        · exact hm.bound b o (by have := (hcl 0 y (by rw [hxs]; rfl)).2.2; simpa using this)
end Go.Vm
