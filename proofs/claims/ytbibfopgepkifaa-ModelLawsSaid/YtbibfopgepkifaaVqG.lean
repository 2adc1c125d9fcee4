import Derived.Test.YtbibfopgepkifaaVqE
import Derived.Test.YtbibfopgepkifaaVmBE
set_option linter.all false
/- The examples, by evaluation. Printed by awake04.py. -/
namespace Go.Vm
open Go.Proofs
set_option maxRecDepth 100000
abbrev stp (c s lo hi : Int) : V := .agg [nn c, nn s, nn lo, nn hi]
abbrev pt3 (a b d : Int) : V := .agg [nn a, nn b, nn d]
def noOrc : FuncId → List V → Option R := fun _ _ => none
def noItr : FuncId → List V → List V → Option (List (List V)) := fun _ _ _ => none
theorem itr0 : SpecI2 Try.prog Γ0 125 [.sl [stp 1 0 0 100, stp 0 1 0 10, stp 1 10 50 70]] [] [[pt3 (0) (50) 10], [pt3 (0) (70) 10], [pt3 (50) (0) 1], [pt3 (70) (0) 1]] := itrE_ok (orc := noOrc) (itr := noItr) (fuel := 300) (d := 30) mixed (fun _ _ _ h => by cases h) (fun _ _ _ _ h => by cases h) fun l => by kernel_rfl
theorem itr1 : SpecI2 Try.prog Γ0 125 [.sl [stp 1 0 0 100, stp 0 1 0 10, stp 1 20 100 110]] [] [[pt3 (100) (0) 1], [pt3 (0) (100) 20], [pt3 (2000) (0) 20], [pt3 (0) (110) 20], [pt3 (2000) (10) 20], [pt3 (100) (0) 1]] := itrE_ok (orc := noOrc) (itr := noItr) (fuel := 300) (d := 30) mixed (fun _ _ _ h => by cases h) (fun _ _ _ _ h => by cases h) fun l => by kernel_rfl
theorem itr2 : SpecI2 Try.prog Γ0 125 [.sl [stp 1 0 0 100, stp 0 1 0 10, stp 1 30 180 190]] [] [[pt3 (0) (180) 30], [pt3 (3000) (80) 30], [pt3 (0) (190) 30], [pt3 (3000) (90) 30]] := itrE_ok (orc := noOrc) (itr := noItr) (fuel := 300) (d := 30) mixed (fun _ _ _ h => by cases h) (fun _ _ _ _ h => by cases h) fun l => by kernel_rfl
theorem itr3 : SpecI2 Try.prog Γ0 125 [.sl [stp 1 0 0 100, stp 0 1 0 10, stp 1 10 50 70, stp 1 20 100 110]] [] [[pt3 (0) (50) 10], [pt3 (0) (100) 20], [pt3 (0) (110) 20], [pt3 (0) (50) 10], [pt3 (400) (30) 10], [pt3 (300) (40) 10]] := itrE_ok (orc := noOrc) (itr := noItr) (fuel := 300) (d := 30) mixed (fun _ _ _ h => by cases h) (fun _ _ _ _ h => by cases h) fun l => by kernel_rfl
theorem itr4 : SpecI2 Try.prog Γ0 125 [.sl [stp 1 0 0 100, stp 0 1 0 10, stp 1 10 50 70, stp 1 30 180 190]] [] [[pt3 (0) (180) 30], [pt3 (0) (190) 30], [pt3 (300) (110) 20], [pt3 (200) (120) 20]] := itrE_ok (orc := noOrc) (itr := noItr) (fuel := 300) (d := 30) mixed (fun _ _ _ h => by cases h) (fun _ _ _ _ h => by cases h) fun l => by kernel_rfl
theorem itr5 : SpecI2 Try.prog Γ0 125 [.sl [stp 1 0 0 100, stp 0 1 0 10, stp 1 20 100 110, stp 1 30 180 190]] [] [] := itrE_ok (orc := noOrc) (itr := noItr) (fuel := 300) (d := 30) mixed (fun _ _ _ h => by cases h) (fun _ _ _ _ h => by cases h) fun l => by kernel_rfl
def tbl12 : List (FuncId × (List V × List V) × List (List V)) := [(125, ([.sl [stp 1 0 0 100, stp 0 1 0 10, stp 1 10 50 70]], []), [[pt3 (0) (50) 10], [pt3 (0) (70) 10], [pt3 (50) (0) 1], [pt3 (70) (0) 1]]), (125, ([.sl [stp 1 0 0 100, stp 0 1 0 10, stp 1 20 100 110]], []), [[pt3 (100) (0) 1], [pt3 (0) (100) 20], [pt3 (2000) (0) 20], [pt3 (0) (110) 20], [pt3 (2000) (10) 20], [pt3 (100) (0) 1]]), (125, ([.sl [stp 1 0 0 100, stp 0 1 0 10, stp 1 30 180 190]], []), [[pt3 (0) (180) 30], [pt3 (3000) (80) 30], [pt3 (0) (190) 30], [pt3 (3000) (90) 30]]), (125, ([.sl [stp 1 0 0 100, stp 0 1 0 10, stp 1 10 50 70, stp 1 20 100 110]], []), [[pt3 (0) (50) 10], [pt3 (0) (100) 20], [pt3 (0) (110) 20], [pt3 (0) (50) 10], [pt3 (400) (30) 10], [pt3 (300) (40) 10]]), (125, ([.sl [stp 1 0 0 100, stp 0 1 0 10, stp 1 10 50 70, stp 1 30 180 190]], []), [[pt3 (0) (180) 30], [pt3 (0) (190) 30], [pt3 (300) (110) 20], [pt3 (200) (120) 20]]), (125, ([.sl [stp 1 0 0 100, stp 0 1 0 10, stp 1 20 100 110, stp 1 30 180 190]], []), [])]
theorem tbl12uok : ∀ e ∈ tbl12, SpecI2 Try.prog Γ0 e.1 e.2.1.1 e.2.1.2 e.2.2 := by
  intro e he
  simp only [tbl12, List.mem_cons, List.not_mem_nil, or_false] at he
  rcases he with rfl | rfl | rfl | rfl | rfl | rfl
  · exact itr0
  · exact itr1
  · exact itr2
  · exact itr3
  · exact itr4
  · exact itr5
theorem spec12 : Sp0 12 [] (R.v (.b true)) := fnE_ok (orc := noOrc) (itr := itrT tbl12) (fuel := 300) (d := 40) mixed (fun _ _ _ h => by cases h) (itrT_ok tbl12uok) (by kernel_rfl)
end Go.Vm
