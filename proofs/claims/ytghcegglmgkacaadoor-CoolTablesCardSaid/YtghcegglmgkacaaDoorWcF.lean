import Derived.Test.YtghcegglmgkacaaDoorVmBC
import Derived.Test.YtghcegglmgkacaaDoorProg
set_option linter.all false
/- What the program's types are. Printed by VmFacts.lean. -/
namespace Go.Vm
open Go.Proofs
set_option maxRecDepth 20000
set_option maxHeartbeats 8000000
def Γ0 : Nat → Option (List V) := fun _ => none
abbrev Sp0 : FuncId → List V → R → Prop := Spec Tryd.prog Γ0
abbrev nn (n : Int) : V := .i .i64 n
theorem mixed : Tryd.prog.follows .mixedOrders = true := by decide +kernel
theorem wr64 {n : Int} (h1 : -9223372036854775808 ≤ n) (h2 : n ≤ 9223372036854775807) : IntKind.wrap .i64 n = n := by
  simp [IntKind.wrap, IntKind.signed, IntKind.bits] <;> (try split) <;> omega
theorem mapnn {xs : List Int} : (∀ y, y ∈ List.map nn xs → y.cells.length = 1) = True := by
  simp only [List.mem_map, eq_iff_iff, iff_true]; rintro y ⟨a, _, rfl⟩; rfl
abbrev p2 (p : Int × Int) : V := .agg [nn p.1, nn p.2]
theorem mapp2 {xs : List (Int × Int)} : (∀ y, y ∈ List.map p2 xs → y.cells.length = 2) = True := by
  simp only [List.mem_map, eq_iff_iff, iff_true]; rintro y ⟨a, _, rfl⟩; rfl
theorem maxB : maxBytes = 1099511627776 := rfl
theorem mapDrop {α : Type} {f : α → V} {xs : List α} {n : Nat} : (xs.map f).drop n = (xs.drop n).map f := by rw [List.map_drop]
theorem mapTake {α : Type} {f : α → V} {xs : List α} {n : Nat} : (xs.map f).take n = (xs.take n).map f := by rw [List.map_take]
theorem mapApp {α : Type} {f : α → V} {xs ys : List α} : xs.map f ++ ys.map f = (xs ++ ys).map f := by rw [List.map_append]
theorem mapSnoc {xs : List Int} {y : Int} : xs.map nn ++ [V.i .i64 y] = (xs ++ [y]).map nn := by rw [List.map_append]; rfl
theorem mapSnoc2 {xs : List (Int × Int)} {y z : Int} : xs.map p2 ++ [V.agg [V.i .i64 y, V.i .i64 z]] = (xs ++ [(y, z)]).map p2 := by rw [List.map_append]; rfl
theorem mapRep {n : Nat} {a : Int} : List.replicate n (V.i .i64 a) = (List.replicate n a).map nn := by rw [List.map_replicate]
theorem mapSet {xs : List Int} {n : Nat} {a : Int} : (xs.map nn).set n (V.i .i64 a) = (xs.set n a).map nn := by rw [List.map_set]
theorem isNil_nn {σ : VS} {x : Int} {xs : List Int} : isNil σ (.p (.sl ((x :: xs).map nn))) = some false := rfl
theorem cast0' : ((0 : Nat) : Int) = 0 := rfl
theorem castPred {i : Nat} : ((i : Int) - 1).toNat = i - 1 := by omega
theorem castSucc {i : Nat} : ((i : Int) + 1).toNat = i + 1 := by omega
theorem toNat0 : Int.toNat 0 = 0 := rfl
theorem winM_0 : winM Γ0 = false := Eq.trans rfl rfl
def vp := And.intro @winM_0 <| And.intro (@Option.map_none.{0, 0}) <| And.intro @toNat0 <| And.intro @castPred <| And.intro @castSucc <| And.intro @mapnn (And.intro @mapp2 (And.intro @maxB (And.intro @mapDrop (And.intro @mapTake (And.intro @mapApp (And.intro @mapSnoc (And.intro @mapSnoc2 (And.intro @mapRep (And.intro @mapSet (And.intro @isNil_nn @cast0'))))))))))
theorem ta3 : szq Tryd.prog 3 = some 1 ∧ byq Tryd.prog 3 = some 8 ∧ agq Tryd.prog 3 = some false ∧ arq Tryd.prog 3 = none := by decide +kernel
theorem tz3 : zeq Tryd.prog 3 = some [.p (.i .i64 0)] := by rfl
theorem tu3 : Tryd.prog.underlying 3 = some (.int .i64) := by rfl
def ty3 := (And.intro ta3 (And.intro tz3 tu3))
theorem ta4 : szq Tryd.prog 4 = some 1 ∧ byq Tryd.prog 4 = some 1 ∧ agq Tryd.prog 4 = some false ∧ arq Tryd.prog 4 = none ∧ isBool Tryd.prog 4 = true := by decide +kernel
theorem tz4 : zeq Tryd.prog 4 = some [.p (.b false)] := by rfl
def ty4 := (And.intro ta4 tz4)
theorem ta9 : szq Tryd.prog 9 = some 1 ∧ byq Tryd.prog 9 = some 16 ∧ agq Tryd.prog 9 = some false ∧ arq Tryd.prog 9 = none ∧ isStr Tryd.prog 9 = true := by decide +kernel
theorem tz9 : zeq Tryd.prog 9 = some [.p (.s ByteArray.empty)] := by rfl
def ty9 := (And.intro ta9 tz9)
theorem ta22 : szq Tryd.prog 22 = some 1 ∧ byq Tryd.prog 22 = some 24 ∧ agq Tryd.prog 22 = some false ∧ elq Tryd.prog 22 = some 71 ∧ arq Tryd.prog 22 = none := by decide +kernel
theorem tz22 : zeq Tryd.prog 22 = some [.nilS] := by rfl
def ty22 := (And.intro ta22 tz22)
theorem ta24 : szq Tryd.prog 24 = some 3 ∧ byq Tryd.prog 24 = some 40 ∧ agq Tryd.prog 24 = some true ∧ arq Tryd.prog 24 = none ∧ flq Tryd.prog 24 0 = some (3, 0, 1) ∧ flq Tryd.prog 24 1 = some (3, 1, 1) ∧ flq Tryd.prog 24 2 = some (22, 2, 1) ∧ plq Tryd.prog 24 = some [(0, 1), (1, 1), (2, 1)] := by decide +kernel
theorem tz24 : zeq Tryd.prog 24 = some [.p (.i .i64 0), .p (.i .i64 0), .nilS] := by rfl
def ty24 := (And.intro ta24 tz24)
theorem ta26 : szq Tryd.prog 26 = some 2 ∧ byq Tryd.prog 26 = some 16 ∧ agq Tryd.prog 26 = some true ∧ arq Tryd.prog 26 = none ∧ flq Tryd.prog 26 0 = some (3, 0, 1) ∧ flq Tryd.prog 26 1 = some (3, 1, 1) ∧ plq Tryd.prog 26 = some [(0, 1), (1, 1)] ∧ cmpq Tryd.prog 26 = some [1, 1] := by decide +kernel
theorem tz26 : zeq Tryd.prog 26 = some [.p (.i .i64 0), .p (.i .i64 0)] := by rfl
def ty26 := (And.intro ta26 tz26)
theorem ta28 : szq Tryd.prog 28 = some 4 ∧ byq Tryd.prog 28 = some 32 ∧ agq Tryd.prog 28 = some true ∧ arq Tryd.prog 28 = none ∧ flq Tryd.prog 28 0 = some (3, 0, 1) ∧ flq Tryd.prog 28 1 = some (26, 1, 2) ∧ flq Tryd.prog 28 2 = some (3, 3, 1) ∧ plq Tryd.prog 28 = some [(0, 1), (1, 2), (3, 1)] ∧ cmpq Tryd.prog 28 = some [1, 1, 1, 1] := by decide +kernel
theorem tz28 : zeq Tryd.prog 28 = some [.p (.i .i64 0), .p (.i .i64 0), .p (.i .i64 0), .p (.i .i64 0)] := by rfl
def ty28 := (And.intro ta28 tz28)
theorem ta31 : szq Tryd.prog 31 = some 1 ∧ byq Tryd.prog 31 = some 8 ∧ agq Tryd.prog 31 = some false ∧ arq Tryd.prog 31 = none := by decide +kernel
theorem tz31 : zeq Tryd.prog 31 = some [.p (.i .i64 0)] := by rfl
theorem tu31 : Tryd.prog.underlying 31 = some (.int .i64) := by rfl
def ty31 := (And.intro ta31 (And.intro tz31 tu31))
theorem ta46 : szq Tryd.prog 46 = some 1 ∧ byq Tryd.prog 46 = some 24 ∧ agq Tryd.prog 46 = some false ∧ elq Tryd.prog 46 = some 3 ∧ arq Tryd.prog 46 = none := by decide +kernel
theorem tz46 : zeq Tryd.prog 46 = some [.nilS] := by rfl
def ty46 := (And.intro ta46 tz46)
theorem ta49 : szq Tryd.prog 49 = some 1 ∧ byq Tryd.prog 49 = some 24 ∧ agq Tryd.prog 49 = some false ∧ elq Tryd.prog 49 = some 26 ∧ arq Tryd.prog 49 = none := by decide +kernel
theorem tz49 : zeq Tryd.prog 49 = some [.nilS] := by rfl
def ty49 := (And.intro ta49 tz49)
theorem ta54 : szq Tryd.prog 54 = some 2 ∧ byq Tryd.prog 54 = some 16 ∧ agq Tryd.prog 54 = some true ∧ arq Tryd.prog 54 = none ∧ flq Tryd.prog 54 0 = some (3, 0, 1) ∧ flq Tryd.prog 54 1 = some (3, 1, 1) ∧ plq Tryd.prog 54 = some [(0, 1), (1, 1)] ∧ cmpq Tryd.prog 54 = some [1, 1] := by decide +kernel
theorem tz54 : zeq Tryd.prog 54 = some [.p (.i .i64 0), .p (.i .i64 0)] := by rfl
def ty54 := (And.intro ta54 tz54)
theorem ta57 : szq Tryd.prog 57 = some 1 ∧ byq Tryd.prog 57 = some 24 ∧ agq Tryd.prog 57 = some false ∧ elq Tryd.prog 57 = some 49 ∧ arq Tryd.prog 57 = none := by decide +kernel
theorem tz57 : zeq Tryd.prog 57 = some [.nilS] := by rfl
def ty57 := (And.intro ta57 tz57)
theorem ta59 : szq Tryd.prog 59 = some 1 ∧ byq Tryd.prog 59 = some 24 ∧ agq Tryd.prog 59 = some true ∧ arq Tryd.prog 59 = none ∧ flq Tryd.prog 59 0 = some (57, 0, 1) ∧ plq Tryd.prog 59 = some [(0, 1)] := by decide +kernel
theorem tz59 : zeq Tryd.prog 59 = some [.nilS] := by rfl
def ty59 := (And.intro ta59 tz59)
theorem ta64 : szq Tryd.prog 64 = some 2 ∧ byq Tryd.prog 64 = some 16 ∧ agq Tryd.prog 64 = some true ∧ arq Tryd.prog 64 = none ∧ flq Tryd.prog 64 0 = some (3, 0, 1) ∧ flq Tryd.prog 64 1 = some (4, 1, 1) ∧ plq Tryd.prog 64 = some [(0, 1), (1, 1)] ∧ cmpq Tryd.prog 64 = some [1, 0] := by decide +kernel
theorem tz64 : zeq Tryd.prog 64 = some [.p (.i .i64 0), .p (.b false)] := by rfl
def ty64 := (And.intro ta64 tz64)
theorem ta65 : szq Tryd.prog 65 = some 1 ∧ byq Tryd.prog 65 = some 24 ∧ agq Tryd.prog 65 = some false ∧ elq Tryd.prog 65 = some 64 ∧ arq Tryd.prog 65 = none := by decide +kernel
theorem tz65 : zeq Tryd.prog 65 = some [.nilS] := by rfl
def ty65 := (And.intro ta65 tz65)
theorem ta71 : szq Tryd.prog 71 = some 3 ∧ byq Tryd.prog 71 = some 24 ∧ agq Tryd.prog 71 = some true ∧ arq Tryd.prog 71 = none ∧ flq Tryd.prog 71 0 = some (26, 0, 2) ∧ flq Tryd.prog 71 1 = some (3, 2, 1) ∧ plq Tryd.prog 71 = some [(0, 2), (2, 1)] ∧ cmpq Tryd.prog 71 = some [1, 1, 1] := by decide +kernel
theorem tz71 : zeq Tryd.prog 71 = some [.p (.i .i64 0), .p (.i .i64 0), .p (.i .i64 0)] := by rfl
def ty71 := (And.intro ta71 tz71)
theorem ta75 : szq Tryd.prog 75 = some 3 ∧ byq Tryd.prog 75 = some 40 ∧ agq Tryd.prog 75 = some true ∧ arq Tryd.prog 75 = none ∧ flq Tryd.prog 75 0 = some (24, 0, 3) ∧ plq Tryd.prog 75 = some [(0, 3)] := by decide +kernel
theorem tz75 : zeq Tryd.prog 75 = some [.p (.i .i64 0), .p (.i .i64 0), .nilS] := by rfl
def ty75 := (And.intro ta75 tz75)
theorem ta80 : szq Tryd.prog 80 = some 1 ∧ byq Tryd.prog 80 = some 8 ∧ agq Tryd.prog 80 = some false ∧ arq Tryd.prog 80 = none := by decide +kernel
theorem tz80 : zeq Tryd.prog 80 = some [.p (.i .u64 0)] := by rfl
theorem tu80 : Tryd.prog.underlying 80 = some (.int .u64) := by rfl
def ty80 := (And.intro ta80 (And.intro tz80 tu80))
theorem ta110 : szq Tryd.prog 110 = some 1 ∧ byq Tryd.prog 110 = some 24 ∧ agq Tryd.prog 110 = some false ∧ elq Tryd.prog 110 = some 31 ∧ arq Tryd.prog 110 = none := by decide +kernel
theorem tz110 : zeq Tryd.prog 110 = some [.nilS] := by rfl
def ty110 := (And.intro ta110 tz110)
def q3 := (And.intro ty24 (And.intro ty28 (And.intro ty3 (And.intro ty26 (And.intro ty31 (And.intro ty22 ty71))))))
def q4 := (And.intro ty26 (And.intro ty54 (And.intro ty46 (And.intro ty59 (And.intro ty64 (And.intro ty65 (And.intro ty31 (And.intro ty3 (And.intro ty9 (And.intro ty57 (And.intro ty4 ty49)))))))))))
def q5 := (And.intro ty24 (And.intro ty22 (And.intro ty3 (And.intro ty71 ty26))))
def q6 := (And.intro ty24 (And.intro ty3 (And.intro ty22 (And.intro ty110 (And.intro ty31 (And.intro ty71 ty26))))))
def q7 := (And.intro ty24 (And.intro ty22 (And.intro ty3 (And.intro ty71 ty26))))
def q8 := (And.intro ty24 (And.intro ty26 (And.intro ty31 (And.intro ty75 (And.intro ty110 (And.intro ty3 (And.intro ty80 (And.intro ty22 ty71))))))))
def q9 := (And.intro ty24 (And.intro ty110 (And.intro ty31 (And.intro ty75 (And.intro ty80 (And.intro ty3 (And.intro ty22 ty71)))))))
def q10 := (And.intro ty24 (And.intro ty3 (And.intro ty22 (And.intro ty71 ty26))))
def q12 := (And.intro ty24 (And.intro ty22 (And.intro ty3 (And.intro ty71 ty26))))
def q13 := (And.intro ty24 (And.intro ty3 (And.intro ty22 ty71)))
def q14 := (And.intro ty26 ty3)
def q15 := (And.intro ty24 (And.intro ty26 (And.intro ty22 (And.intro ty3 (And.intro ty71 ty46)))))
def q20 := (And.intro ty24 (And.intro ty59 (And.intro ty46 (And.intro ty110 (And.intro ty31 (And.intro ty75 (And.intro ty22 (And.intro ty57 (And.intro ty3 (And.intro ty80 (And.intro ty49 (And.intro ty71 ty26))))))))))))
def q24 := (And.intro ty110 (And.intro ty3 ty31))
def q27 := (And.intro ty26 (And.intro ty3 (And.intro ty110 ty31)))
def q28 := (And.intro ty24 (And.intro ty3 (And.intro ty22 ty71)))
def q29 := (And.intro ty75 (And.intro ty3 (And.intro ty24 ty22)))
def q30 := (And.intro ty26 ty3)
def q31 := (And.intro ty75 (And.intro ty26 (And.intro ty3 (And.intro ty24 ty22))))
def q33 := (And.intro ty75 (And.intro ty24 (And.intro ty22 (And.intro ty3 (And.intro ty71 (And.intro ty80 ty26))))))
def q34 := (And.intro ty24 (And.intro ty22 (And.intro ty3 (And.intro ty71 ty26))))
def q35 := (And.intro ty24 (And.intro ty22 (And.intro ty3 (And.intro ty46 (And.intro ty71 ty26)))))
def q39 := (And.intro ty75 (And.intro ty24 (And.intro ty22 (And.intro ty3 (And.intro ty71 ty26)))))
def q48 := ty80
def q49 := (And.intro ty49 (And.intro ty3 ty26))
def q50 := (And.intro ty75 (And.intro ty3 (And.intro ty24 (And.intro ty22 (And.intro ty71 ty26)))))
def q58 := (And.intro ty75 (And.intro ty24 (And.intro ty22 (And.intro ty3 (And.intro ty71 ty26)))))
def q59 := (And.intro ty26 ty3)
def q60 := (And.intro ty26 ty3)
def q61 := ty3
end Go.Vm
