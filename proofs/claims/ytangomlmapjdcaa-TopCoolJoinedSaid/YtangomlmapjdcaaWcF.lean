import Derived.Test.YtangomlmapjdcaaVmBC
import Derived.Test.YtangomlmapjdcaaProg
set_option linter.all false
/- What the program's types are. Printed by VmFacts.lean. -/
namespace Go.Vm
open Go.Proofs
set_option maxRecDepth 20000
set_option maxHeartbeats 8000000
def Γ0 : Nat → Option (List V) := fun _ => none
abbrev Sp0 : FuncId → List V → R → Prop := Spec Try.prog Γ0
abbrev nn (n : Int) : V := .i .i64 n
abbrev bb (b : Bool) : V := .b b
theorem mixed : Try.prog.follows .mixedOrders = true := by decide +kernel
theorem wr64 {n : Int} (h1 : -9223372036854775808 ≤ n) (h2 : n ≤ 9223372036854775807) : IntKind.wrap .i64 n = n := by
  simp [IntKind.wrap, IntKind.signed, IntKind.bits] <;> (try split) <;> omega
theorem mapnn {xs : List Int} : (∀ y, y ∈ List.map nn xs → y.cells.length = 1) = True := by
  simp only [List.mem_map, eq_iff_iff, iff_true]; rintro y ⟨a, _, rfl⟩; rfl
abbrev p2 (p : Int × Int) : V := .agg [nn p.1, nn p.2]
theorem mapp2 {xs : List (Int × Int)} : (∀ y, y ∈ List.map p2 xs → y.cells.length = 2) = True := by
  simp only [List.mem_map, eq_iff_iff, iff_true]; rintro y ⟨a, _, rfl⟩; rfl
theorem maxB : maxBytes = 1099511627776 := rfl
theorem mapDrop {α : Type} {f : α → V} {xs : List α} {n : Nat} : (xs.map f).drop n = (xs.drop n).map f := by rw [List.map_drop]
theorem mapTake {α : Type} {f : α → V} {xs : List α} {n : Nat} : (xs.map f).take n = (xs.take n).map f := by rw [List.map_take]
theorem mapApp {α : Type} {f : α → V} {xs ys : List α} : xs.map f ++ ys.map f = (xs ++ ys).map f := by rw [List.map_append]
theorem mapSnoc {xs : List Int} {y : Int} : xs.map nn ++ [V.i .i64 y] = (xs ++ [y]).map nn := by rw [List.map_append]; rfl
theorem mapSnoc2 {xs : List (Int × Int)} {y z : Int} : xs.map p2 ++ [V.agg [V.i .i64 y, V.i .i64 z]] = (xs ++ [(y, z)]).map p2 := by rw [List.map_append]; rfl
theorem mapRep {n : Nat} {a : Int} : List.replicate n (V.i .i64 a) = (List.replicate n a).map nn := by rw [List.map_replicate]
theorem mapSet {xs : List Int} {n : Nat} {a : Int} : (xs.map nn).set n (V.i .i64 a) = (xs.set n a).map nn := by rw [List.map_set]
theorem isNil_nn {σ : VS} {x : Int} {xs : List Int} : isNil σ (.p (.sl ((x :: xs).map nn))) = some false := rfl
theorem cast0' : ((0 : Nat) : Int) = 0 := rfl
theorem castPred {i : Nat} : ((i : Int) - 1).toNat = i - 1 := by omega
theorem castSucc {i : Nat} : ((i : Int) + 1).toNat = i + 1 := by omega
theorem toNat0 : Int.toNat 0 = 0 := rfl
theorem winM_0 : winM Γ0 = false := Eq.trans rfl rfl
def vp := And.intro @winM_0 <| And.intro (@Option.map_none.{0, 0}) <| And.intro @toNat0 <| And.intro @castPred <| And.intro @castSucc <| And.intro @mapnn (And.intro @mapp2 (And.intro @maxB (And.intro @mapDrop (And.intro @mapTake (And.intro @mapApp (And.intro @mapSnoc (And.intro @mapSnoc2 (And.intro @mapRep (And.intro @mapSet (And.intro @isNil_nn @cast0'))))))))))
theorem ta3 : szq Try.prog 3 = some 1 ∧ byq Try.prog 3 = some 8 ∧ agq Try.prog 3 = some false ∧ arq Try.prog 3 = none := by decide +kernel
theorem tz3 : zeq Try.prog 3 = some [.p (.i .i64 0)] := by rfl
theorem tu3 : Try.prog.underlying 3 = some (.int .i64) := by rfl
def ty3 := (And.intro ta3 (And.intro tz3 tu3))
theorem ta4 : szq Try.prog 4 = some 1 ∧ byq Try.prog 4 = some 1 ∧ agq Try.prog 4 = some false ∧ arq Try.prog 4 = none ∧ isBool Try.prog 4 = true := by decide +kernel
theorem tz4 : zeq Try.prog 4 = some [.p (.b false)] := by rfl
def ty4 := (And.intro ta4 tz4)
theorem ta22 : szq Try.prog 22 = some 1 ∧ byq Try.prog 22 = some 24 ∧ agq Try.prog 22 = some false ∧ elq Try.prog 22 = some 42 ∧ arq Try.prog 22 = none := by decide +kernel
theorem tz22 : zeq Try.prog 22 = some [.nilS] := by rfl
def ty22 := (And.intro ta22 tz22)
theorem ta24 : szq Try.prog 24 = some 3 ∧ byq Try.prog 24 = some 40 ∧ agq Try.prog 24 = some true ∧ arq Try.prog 24 = none ∧ flq Try.prog 24 0 = some (3, 0, 1) ∧ flq Try.prog 24 1 = some (3, 1, 1) ∧ flq Try.prog 24 2 = some (22, 2, 1) ∧ plq Try.prog 24 = some [(0, 1), (1, 1), (2, 1)] := by decide +kernel
theorem tz24 : zeq Try.prog 24 = some [.p (.i .i64 0), .p (.i .i64 0), .nilS] := by rfl
def ty24 := (And.intro ta24 tz24)
theorem ta25 : szq Try.prog 25 = some 1 ∧ byq Try.prog 25 = some 24 ∧ agq Try.prog 25 = some false ∧ elq Try.prog 25 = some 40 ∧ arq Try.prog 25 = none := by decide +kernel
theorem tz25 : zeq Try.prog 25 = some [.nilS] := by rfl
def ty25 := (And.intro ta25 tz25)
theorem ta27 : szq Try.prog 27 = some 2 ∧ byq Try.prog 27 = some 48 ∧ agq Try.prog 27 = some true ∧ arq Try.prog 27 = none ∧ flq Try.prog 27 0 = some (25, 0, 1) ∧ flq Try.prog 27 1 = some (25, 1, 1) ∧ plq Try.prog 27 = some [(0, 1), (1, 1)] := by decide +kernel
theorem tz27 : zeq Try.prog 27 = some [.nilS, .nilS] := by rfl
def ty27 := (And.intro ta27 tz27)
theorem ta32 : szq Try.prog 32 = some 1 ∧ byq Try.prog 32 = some 24 ∧ agq Try.prog 32 = some false ∧ elq Try.prog 32 = some 3 ∧ arq Try.prog 32 = none := by decide +kernel
theorem tz32 : zeq Try.prog 32 = some [.nilS] := by rfl
def ty32 := (And.intro ta32 tz32)
theorem ta33 : szq Try.prog 33 = some 1 ∧ byq Try.prog 33 = some 8 ∧ agq Try.prog 33 = some false ∧ arq Try.prog 33 = none := by decide +kernel
theorem tz33 : zeq Try.prog 33 = some [.p (.i .i64 0)] := by rfl
theorem tu33 : Try.prog.underlying 33 = some (.int .i64) := by rfl
def ty33 := (And.intro ta33 (And.intro tz33 tu33))
theorem ta40 : szq Try.prog 40 = some 2 ∧ byq Try.prog 40 = some 16 ∧ agq Try.prog 40 = some true ∧ arq Try.prog 40 = none ∧ flq Try.prog 40 0 = some (3, 0, 1) ∧ flq Try.prog 40 1 = some (3, 1, 1) ∧ plq Try.prog 40 = some [(0, 1), (1, 1)] ∧ cmpq Try.prog 40 = some [1, 1] := by decide +kernel
theorem tz40 : zeq Try.prog 40 = some [.p (.i .i64 0), .p (.i .i64 0)] := by rfl
def ty40 := (And.intro ta40 tz40)
theorem ta42 : szq Try.prog 42 = some 3 ∧ byq Try.prog 42 = some 24 ∧ agq Try.prog 42 = some true ∧ arq Try.prog 42 = none ∧ flq Try.prog 42 0 = some (40, 0, 2) ∧ flq Try.prog 42 1 = some (3, 2, 1) ∧ plq Try.prog 42 = some [(0, 2), (2, 1)] ∧ cmpq Try.prog 42 = some [1, 1, 1] := by decide +kernel
theorem tz42 : zeq Try.prog 42 = some [.p (.i .i64 0), .p (.i .i64 0), .p (.i .i64 0)] := by rfl
def ty42 := (And.intro ta42 tz42)
theorem ta44 : szq Try.prog 44 = some 2 ∧ byq Try.prog 44 = some 16 ∧ agq Try.prog 44 = some true ∧ arq Try.prog 44 = none ∧ flq Try.prog 44 0 = some (3, 0, 1) ∧ flq Try.prog 44 1 = some (3, 1, 1) ∧ plq Try.prog 44 = some [(0, 1), (1, 1)] ∧ cmpq Try.prog 44 = some [1, 1] := by decide +kernel
theorem tz44 : zeq Try.prog 44 = some [.p (.i .i64 0), .p (.i .i64 0)] := by rfl
def ty44 := (And.intro ta44 tz44)
theorem ta53 : szq Try.prog 53 = some 1 ∧ byq Try.prog 53 = some 24 ∧ agq Try.prog 53 = some false ∧ elq Try.prog 53 = some 25 ∧ arq Try.prog 53 = none := by decide +kernel
theorem tz53 : zeq Try.prog 53 = some [.nilS] := by rfl
def ty53 := (And.intro ta53 tz53)
theorem ta55 : szq Try.prog 55 = some 1 ∧ byq Try.prog 55 = some 24 ∧ agq Try.prog 55 = some true ∧ arq Try.prog 55 = none ∧ flq Try.prog 55 0 = some (53, 0, 1) ∧ plq Try.prog 55 = some [(0, 1)] := by decide +kernel
theorem tz55 : zeq Try.prog 55 = some [.nilS] := by rfl
def ty55 := (And.intro ta55 tz55)
theorem ta61 : szq Try.prog 61 = some 3 ∧ byq Try.prog 61 = some 40 ∧ agq Try.prog 61 = some true ∧ arq Try.prog 61 = none ∧ flq Try.prog 61 0 = some (24, 0, 3) ∧ plq Try.prog 61 = some [(0, 3)] := by decide +kernel
theorem tz61 : zeq Try.prog 61 = some [.p (.i .i64 0), .p (.i .i64 0), .nilS] := by rfl
def ty61 := (And.intro ta61 tz61)
theorem ta63 : szq Try.prog 63 = some 5 ∧ byq Try.prog 63 = some 88 ∧ agq Try.prog 63 = some true ∧ arq Try.prog 63 = none ∧ flq Try.prog 63 0 = some (61, 0, 3) ∧ flq Try.prog 63 1 = some (27, 3, 2) ∧ plq Try.prog 63 = some [(0, 3), (3, 2)] := by decide +kernel
theorem tz63 : zeq Try.prog 63 = some [.p (.i .i64 0), .p (.i .i64 0), .nilS, .nilS, .nilS] := by rfl
def ty63 := (And.intro ta63 tz63)
theorem ta70 : szq Try.prog 70 = some 2 ∧ byq Try.prog 70 = some 16 ∧ agq Try.prog 70 = some true ∧ arq Try.prog 70 = none ∧ flq Try.prog 70 0 = some (44, 0, 2) ∧ plq Try.prog 70 = some [(0, 2)] ∧ cmpq Try.prog 70 = some [1, 1] := by decide +kernel
theorem tz70 : zeq Try.prog 70 = some [.p (.i .i64 0), .p (.i .i64 0)] := by rfl
def ty70 := (And.intro ta70 tz70)
theorem ta71 : szq Try.prog 71 = some 1 ∧ byq Try.prog 71 = some 24 ∧ agq Try.prog 71 = some false ∧ elq Try.prog 71 = some 32 ∧ arq Try.prog 71 = none := by decide +kernel
theorem tz71 : zeq Try.prog 71 = some [.nilS] := by rfl
def ty71 := (And.intro ta71 tz71)
theorem ta84 : szq Try.prog 84 = some 1 ∧ byq Try.prog 84 = some 8 ∧ agq Try.prog 84 = some false ∧ arq Try.prog 84 = none := by decide +kernel
theorem tz84 : zeq Try.prog 84 = some [.p (.i .u64 0)] := by rfl
theorem tu84 : Try.prog.underlying 84 = some (.int .u64) := by rfl
def ty84 := (And.intro ta84 (And.intro tz84 tu84))
theorem ta97 : szq Try.prog 97 = some 1 ∧ byq Try.prog 97 = some 24 ∧ agq Try.prog 97 = some false ∧ elq Try.prog 97 = some 33 ∧ arq Try.prog 97 = none := by decide +kernel
theorem tz97 : zeq Try.prog 97 = some [.nilS] := by rfl
def ty97 := (And.intro ta97 tz97)
def q3 := (And.intro ty24 (And.intro ty27 (And.intro ty3 (And.intro ty25 (And.intro ty33 (And.intro ty4 (And.intro ty22 (And.intro ty42 (And.intro ty44 ty40)))))))))
def q4 := (And.intro ty40 (And.intro ty25 (And.intro ty53 (And.intro ty55 (And.intro ty33 (And.intro ty32 ty3))))))
def q5 := (And.intro ty24 (And.intro ty27 (And.intro ty25 (And.intro ty3 (And.intro ty22 (And.intro ty40 ty42))))))
def q6 := (And.intro ty24 (And.intro ty27 (And.intro ty3 (And.intro ty22 (And.intro ty25 (And.intro ty42 ty40))))))
def q7 := (And.intro ty25 (And.intro ty40 ty3))
def q8 := (And.intro ty24 (And.intro ty27 (And.intro ty63 (And.intro ty33 (And.intro ty25 (And.intro ty3 (And.intro ty32 (And.intro ty22 (And.intro ty61 (And.intro ty40 ty42))))))))))
def q9 := (And.intro ty24 (And.intro ty22 (And.intro ty3 (And.intro ty42 ty40))))
def q10 := (And.intro ty27 (And.intro ty25 (And.intro ty40 ty3)))
def q11 := (And.intro ty32 ty3)
def q12 := (And.intro ty24 (And.intro ty27 (And.intro ty44 (And.intro ty63 (And.intro ty97 (And.intro ty33 (And.intro ty70 (And.intro ty25 (And.intro ty71 (And.intro ty3 (And.intro ty32 (And.intro ty61 (And.intro ty22 (And.intro ty40 ty42))))))))))))))
def q18 := (And.intro ty24 (And.intro ty22 (And.intro ty3 (And.intro ty42 ty40))))
def q19 := (And.intro ty24 (And.intro ty3 (And.intro ty22 ty42)))
def q20 := (And.intro ty27 (And.intro ty25 ty40))
def q21 := (And.intro ty24 (And.intro ty27 (And.intro ty63 (And.intro ty61 (And.intro ty97 (And.intro ty3 (And.intro ty22 (And.intro ty25 (And.intro ty33 (And.intro ty42 ty40))))))))))
def q22 := (And.intro ty63 (And.intro ty3 (And.intro ty32 (And.intro ty84 (And.intro ty61 (And.intro ty27 (And.intro ty24 ty25)))))))
def q23 := (And.intro ty97 (And.intro ty3 ty33))
def q24 := (And.intro ty44 ty3)
def q26 := (And.intro ty61 (And.intro ty24 (And.intro ty22 (And.intro ty3 (And.intro ty42 ty40)))))
def q27 := (And.intro ty63 (And.intro ty32 (And.intro ty3 (And.intro ty84 (And.intro ty61 (And.intro ty27 (And.intro ty24 ty25)))))))
def q28 := (And.intro ty70 (And.intro ty44 (And.intro ty3 ty84)))
def q29 := (And.intro ty70 (And.intro ty32 (And.intro ty3 ty44)))
def q30 := (And.intro ty70 (And.intro ty32 (And.intro ty3 ty44)))
def q31 := (And.intro ty24 (And.intro ty44 (And.intro ty32 (And.intro ty97 (And.intro ty33 (And.intro ty61 (And.intro ty3 (And.intro ty70 (And.intro ty22 ty42)))))))))
def q32 := (And.intro ty24 (And.intro ty3 (And.intro ty22 ty42)))
def q33 := (And.intro ty61 (And.intro ty3 (And.intro ty24 ty22)))
def q34 := (And.intro ty40 ty3)
def q35 := (And.intro ty61 (And.intro ty40 (And.intro ty3 (And.intro ty24 ty22))))
def q42 := (And.intro ty24 (And.intro ty3 (And.intro ty22 (And.intro ty42 ty40))))
def q43 := (And.intro ty27 (And.intro ty25 (And.intro ty3 ty40)))
def q44 := (And.intro ty27 (And.intro ty25 ty40))
def q46 := (And.intro ty63 (And.intro ty61 (And.intro ty27 (And.intro ty25 (And.intro ty40 (And.intro ty3 (And.intro ty24 ty22)))))))
def q49 := (And.intro ty70 (And.intro ty44 (And.intro ty3 ty84)))
def q50 := (And.intro ty3 (And.intro ty97 ty33))
def q51 := (And.intro ty61 (And.intro ty32 (And.intro ty3 (And.intro ty84 (And.intro ty97 (And.intro ty33 (And.intro ty24 ty22)))))))
def q52 := (And.intro ty24 (And.intro ty3 (And.intro ty22 (And.intro ty97 (And.intro ty33 (And.intro ty42 ty40))))))
def q53 := (And.intro ty40 (And.intro ty3 (And.intro ty97 ty33)))
def q54 := (And.intro ty61 (And.intro ty24 (And.intro ty22 (And.intro ty3 (And.intro ty42 ty40)))))
def q55 := (And.intro ty40 ty3)
def q56 := (And.intro ty40 ty3)
def q59 := (And.intro ty40 ty3)
def q60 := (And.intro ty27 (And.intro ty25 (And.intro ty3 (And.intro ty97 (And.intro ty33 ty40)))))
def q61 := (And.intro ty63 (And.intro ty61 (And.intro ty3 (And.intro ty84 (And.intro ty27 (And.intro ty24 (And.intro ty25 ty22)))))))
def q62 := (And.intro ty61 (And.intro ty24 (And.intro ty22 (And.intro ty3 (And.intro ty42 (And.intro ty84 ty40))))))
def q63 := (And.intro ty40 ty3)
end Go.Vm
