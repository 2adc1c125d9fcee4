import Derived.Test.YtfmkfaohhpmpaaaGreatDoorWcF
import Derived.Test.YtfmkfaohhpmpaaaGreatDoorVmBE
set_option linter.all false
/- The examples of chapter 8, by evaluation: the sets of a segment, and a repeated number. -/
namespace Go.Vm
open Go.Proofs
set_option maxRecDepth 100000
abbrev vNever : V := nn 1099511627776
theorem specRep : Sp0 52 [.sl [vNever], nn 4] (.one (.c (.arr 3 1 [vNever, vNever, vNever, vNever]))) :=
  spec_win (fnE_ok (Γ := winΓ Γ0) (orc := fun _ _ => none) (itr := fun _ _ _ => none) (fuel := 300) (d := 10) mixed (fun _ _ _ h => by cases h) (fun _ _ _ _ h => by cases h) (by kernel_rfl))
def tblC : List (FuncId × List V × R) := [(52, [.sl [vNever], nn 4], .one (.c (.arr 3 1 [vNever, vNever, vNever, vNever])))]
theorem tblC_ok : ∀ e ∈ tblC, Sp0 e.1 e.2.1 e.2.2 := by
  intro e he
  simp only [tblC, List.mem_cons, List.not_mem_nil, or_false] at he
  subst he
  exact specRep
def noItr : FuncId → List V → List V → Option (List (List V)) := fun _ _ _ => none
abbrev vSt : List V := [nn 200, nn 10, .sl [.agg [nn 100, nn 100, nn 0], .agg [nn 200, nn 300, nn 2]], .sl [.agg [nn 9000, nn 9000], .agg [nn 9000, nn 9000], .agg [nn 9000, nn 9000]], .sl [.agg [nn 6000, nn 7300], .agg [nn 6000, nn 7300], .agg [nn 6000, nn 7300]]]
abbrev uS (n : Int) : V := .i .u64 n
theorem itr0 : SpecI2 Tryz.prog Γ0 98 [] [.ref vSt, .ref [nn 0]] [[uS 0], [uS 1]] := itrE_ok (orc := orcT tblC) (itr := noItr) (fuel := 300) (d := 30) mixed (orcT_ok tblC_ok) (fun _ _ _ _ h => by cases h) fun l => by kernel_rfl
theorem itr1 : SpecI2 Tryz.prog Γ0 98 [] [.ref vSt, .ref [nn 1]] [[uS 0], [uS 1], [uS 2], [uS 3]] := itrE_ok (orc := orcT tblC) (itr := noItr) (fuel := 300) (d := 30) mixed (orcT_ok tblC_ok) (fun _ _ _ _ h => by cases h) fun l => by kernel_rfl
theorem itr2 : SpecI2 Tryz.prog Γ0 98 [] [.ref vSt, .ref [nn 2]] [[uS 0], [uS 1], [uS 2], [uS 3]] := itrE_ok (orc := orcT tblC) (itr := noItr) (fuel := 300) (d := 30) mixed (orcT_ok tblC_ok) (fun _ _ _ _ h => by cases h) fun l => by kernel_rfl
def tblA : List (FuncId × (List V × List V) × List (List V)) := [(98, ([], [.ref vSt, .ref [nn 0]]), [[uS 0], [uS 1]]), (98, ([], [.ref vSt, .ref [nn 1]]), [[uS 0], [uS 1], [uS 2], [uS 3]]), (98, ([], [.ref vSt, .ref [nn 2]]), [[uS 0], [uS 1], [uS 2], [uS 3]])]
theorem tblA_ok : ∀ e ∈ tblA, SpecI2 Tryz.prog Γ0 e.1 e.2.1.1 e.2.1.2 e.2.2 := by
  intro e he
  simp only [tblA, List.mem_cons, List.not_mem_nil, or_false] at he
  rcases he with rfl | rfl | rfl
  · exact itr0
  · exact itr1
  · exact itr2
end Go.Vm
