import Derived.Test.YtfgjngignahcdaaDoorVmBC
import Derived.Test.YtfgjngignahcdaaDoorProg
set_option linter.all false
/- What the program's types are. Printed by VmFacts.lean. -/
namespace Go.Vm
open Go.Proofs
set_option maxRecDepth 20000
set_option maxHeartbeats 8000000
def Γ0 : Nat → Option (List V) := fun _ => none
abbrev Sp0 : FuncId → List V → R → Prop := Spec Tryd.prog Γ0
abbrev nn (n : Int) : V := .i .i64 n
theorem mixed : Tryd.prog.follows .mixedOrders = true := by decide +kernel
theorem wr64 {n : Int} (h1 : -9223372036854775808 ≤ n) (h2 : n ≤ 9223372036854775807) : IntKind.wrap .i64 n = n := by
  simp [IntKind.wrap, IntKind.signed, IntKind.bits] <;> (try split) <;> omega
theorem mapnn {xs : List Int} : (∀ y, y ∈ List.map nn xs → y.cells.length = 1) = True := by
  simp only [List.mem_map, eq_iff_iff, iff_true]; rintro y ⟨a, _, rfl⟩; rfl
abbrev p2 (p : Int × Int) : V := .agg [nn p.1, nn p.2]
theorem mapp2 {xs : List (Int × Int)} : (∀ y, y ∈ List.map p2 xs → y.cells.length = 2) = True := by
  simp only [List.mem_map, eq_iff_iff, iff_true]; rintro y ⟨a, _, rfl⟩; rfl
theorem maxB : maxBytes = 1099511627776 := rfl
theorem mapDrop {α : Type} {f : α → V} {xs : List α} {n : Nat} : (xs.map f).drop n = (xs.drop n).map f := by rw [List.map_drop]
theorem mapTake {α : Type} {f : α → V} {xs : List α} {n : Nat} : (xs.map f).take n = (xs.take n).map f := by rw [List.map_take]
theorem mapApp {α : Type} {f : α → V} {xs ys : List α} : xs.map f ++ ys.map f = (xs ++ ys).map f := by rw [List.map_append]
theorem mapSnoc {xs : List Int} {y : Int} : xs.map nn ++ [V.i .i64 y] = (xs ++ [y]).map nn := by rw [List.map_append]; rfl
theorem mapSnoc2 {xs : List (Int × Int)} {y z : Int} : xs.map p2 ++ [V.agg [V.i .i64 y, V.i .i64 z]] = (xs ++ [(y, z)]).map p2 := by rw [List.map_append]; rfl
theorem mapRep {n : Nat} {a : Int} : List.replicate n (V.i .i64 a) = (List.replicate n a).map nn := by rw [List.map_replicate]
theorem mapSet {xs : List Int} {n : Nat} {a : Int} : (xs.map nn).set n (V.i .i64 a) = (xs.set n a).map nn := by rw [List.map_set]
theorem isNil_nn {σ : VS} {x : Int} {xs : List Int} : isNil σ (.p (.sl ((x :: xs).map nn))) = some false := rfl
theorem cast0' : ((0 : Nat) : Int) = 0 := rfl
theorem castPred {i : Nat} : ((i : Int) - 1).toNat = i - 1 := by omega
theorem castSucc {i : Nat} : ((i : Int) + 1).toNat = i + 1 := by omega
theorem toNat0 : Int.toNat 0 = 0 := rfl
theorem winM_0 : winM Γ0 = false := Eq.trans rfl rfl
def vp := And.intro @winM_0 <| And.intro (@Option.map_none.{0, 0}) <| And.intro @toNat0 <| And.intro @castPred <| And.intro @castSucc <| And.intro @mapnn (And.intro @mapp2 (And.intro @maxB (And.intro @mapDrop (And.intro @mapTake (And.intro @mapApp (And.intro @mapSnoc (And.intro @mapSnoc2 (And.intro @mapRep (And.intro @mapSet (And.intro @isNil_nn @cast0'))))))))))
theorem ta3 : szq Tryd.prog 3 = some 1 ∧ byq Tryd.prog 3 = some 8 ∧ agq Tryd.prog 3 = some false ∧ arq Tryd.prog 3 = none := by decide +kernel
theorem tz3 : zeq Tryd.prog 3 = some [.p (.i .i64 0)] := by rfl
theorem tu3 : Tryd.prog.underlying 3 = some (.int .i64) := by rfl
def ty3 := (And.intro ta3 (And.intro tz3 tu3))
theorem ta4 : szq Tryd.prog 4 = some 1 ∧ byq Tryd.prog 4 = some 1 ∧ agq Tryd.prog 4 = some false ∧ arq Tryd.prog 4 = none ∧ isBool Tryd.prog 4 = true := by decide +kernel
theorem tz4 : zeq Tryd.prog 4 = some [.p (.b false)] := by rfl
def ty4 := (And.intro ta4 tz4)
theorem ta9 : szq Tryd.prog 9 = some 1 ∧ byq Tryd.prog 9 = some 16 ∧ agq Tryd.prog 9 = some false ∧ arq Tryd.prog 9 = none ∧ isStr Tryd.prog 9 = true := by decide +kernel
theorem tz9 : zeq Tryd.prog 9 = some [.p (.s ByteArray.empty)] := by rfl
theorem tu9 : Tryd.prog.underlying 9 = some .string := by rfl
def ty9 := (And.intro ta9 (And.intro tz9 tu9))
theorem ta22 : szq Tryd.prog 22 = some 1 ∧ byq Tryd.prog 22 = some 24 ∧ agq Tryd.prog 22 = some false ∧ elq Tryd.prog 22 = some 38 ∧ arq Tryd.prog 22 = none := by decide +kernel
theorem tz22 : zeq Tryd.prog 22 = some [.nilS] := by rfl
def ty22 := (And.intro ta22 tz22)
theorem ta24 : szq Tryd.prog 24 = some 3 ∧ byq Tryd.prog 24 = some 40 ∧ agq Tryd.prog 24 = some true ∧ arq Tryd.prog 24 = none ∧ flq Tryd.prog 24 0 = some (3, 0, 1) ∧ flq Tryd.prog 24 1 = some (3, 1, 1) ∧ flq Tryd.prog 24 2 = some (22, 2, 1) ∧ plq Tryd.prog 24 = some [(0, 1), (1, 1), (2, 1)] := by decide +kernel
theorem tz24 : zeq Tryd.prog 24 = some [.p (.i .i64 0), .p (.i .i64 0), .nilS] := by rfl
def ty24 := (And.intro ta24 tz24)
theorem ta26 : szq Tryd.prog 26 = some 2 ∧ byq Tryd.prog 26 = some 16 ∧ agq Tryd.prog 26 = some true ∧ arq Tryd.prog 26 = none ∧ flq Tryd.prog 26 0 = some (3, 0, 1) ∧ flq Tryd.prog 26 1 = some (3, 1, 1) ∧ plq Tryd.prog 26 = some [(0, 1), (1, 1)] ∧ cmpq Tryd.prog 26 = some [1, 1] := by decide +kernel
theorem tz26 : zeq Tryd.prog 26 = some [.p (.i .i64 0), .p (.i .i64 0)] := by rfl
def ty26 := (And.intro ta26 tz26)
theorem ta28 : szq Tryd.prog 28 = some 4 ∧ byq Tryd.prog 28 = some 32 ∧ agq Tryd.prog 28 = some true ∧ arq Tryd.prog 28 = none ∧ flq Tryd.prog 28 0 = some (3, 0, 1) ∧ flq Tryd.prog 28 1 = some (26, 1, 2) ∧ flq Tryd.prog 28 2 = some (3, 3, 1) ∧ plq Tryd.prog 28 = some [(0, 1), (1, 2), (3, 1)] ∧ cmpq Tryd.prog 28 = some [1, 1, 1, 1] := by decide +kernel
theorem tz28 : zeq Tryd.prog 28 = some [.p (.i .i64 0), .p (.i .i64 0), .p (.i .i64 0), .p (.i .i64 0)] := by rfl
def ty28 := (And.intro ta28 tz28)
theorem ta29 : szq Tryd.prog 29 = some 1 ∧ byq Tryd.prog 29 = some 24 ∧ agq Tryd.prog 29 = some false ∧ elq Tryd.prog 29 = some 3 ∧ arq Tryd.prog 29 = none := by decide +kernel
theorem tz29 : zeq Tryd.prog 29 = some [.nilS] := by rfl
def ty29 := (And.intro ta29 tz29)
theorem ta38 : szq Tryd.prog 38 = some 3 ∧ byq Tryd.prog 38 = some 24 ∧ agq Tryd.prog 38 = some true ∧ arq Tryd.prog 38 = none ∧ flq Tryd.prog 38 0 = some (26, 0, 2) ∧ flq Tryd.prog 38 1 = some (3, 2, 1) ∧ plq Tryd.prog 38 = some [(0, 2), (2, 1)] ∧ cmpq Tryd.prog 38 = some [1, 1, 1] := by decide +kernel
theorem tz38 : zeq Tryd.prog 38 = some [.p (.i .i64 0), .p (.i .i64 0), .p (.i .i64 0)] := by rfl
def ty38 := (And.intro ta38 tz38)
theorem ta39 : szq Tryd.prog 39 = some 1 ∧ byq Tryd.prog 39 = some 8 ∧ agq Tryd.prog 39 = some false ∧ arq Tryd.prog 39 = none := by decide +kernel
theorem tz39 : zeq Tryd.prog 39 = some [.p (.i .i64 0)] := by rfl
theorem tu39 : Tryd.prog.underlying 39 = some (.int .i64) := by rfl
def ty39 := (And.intro ta39 (And.intro tz39 tu39))
theorem ta48 : szq Tryd.prog 48 = some 1 ∧ byq Tryd.prog 48 = some 24 ∧ agq Tryd.prog 48 = some false ∧ elq Tryd.prog 48 = some 26 ∧ arq Tryd.prog 48 = none := by decide +kernel
theorem tz48 : zeq Tryd.prog 48 = some [.nilS] := by rfl
def ty48 := (And.intro ta48 tz48)
theorem ta53 : szq Tryd.prog 53 = some 2 ∧ byq Tryd.prog 53 = some 16 ∧ agq Tryd.prog 53 = some true ∧ arq Tryd.prog 53 = none ∧ flq Tryd.prog 53 0 = some (3, 0, 1) ∧ flq Tryd.prog 53 1 = some (3, 1, 1) ∧ plq Tryd.prog 53 = some [(0, 1), (1, 1)] ∧ cmpq Tryd.prog 53 = some [1, 1] := by decide +kernel
theorem tz53 : zeq Tryd.prog 53 = some [.p (.i .i64 0), .p (.i .i64 0)] := by rfl
def ty53 := (And.intro ta53 tz53)
theorem ta56 : szq Tryd.prog 56 = some 1 ∧ byq Tryd.prog 56 = some 24 ∧ agq Tryd.prog 56 = some false ∧ elq Tryd.prog 56 = some 48 ∧ arq Tryd.prog 56 = none := by decide +kernel
theorem tz56 : zeq Tryd.prog 56 = some [.nilS] := by rfl
def ty56 := (And.intro ta56 tz56)
theorem ta58 : szq Tryd.prog 58 = some 1 ∧ byq Tryd.prog 58 = some 24 ∧ agq Tryd.prog 58 = some true ∧ arq Tryd.prog 58 = none ∧ flq Tryd.prog 58 0 = some (56, 0, 1) ∧ plq Tryd.prog 58 = some [(0, 1)] := by decide +kernel
theorem tz58 : zeq Tryd.prog 58 = some [.nilS] := by rfl
def ty58 := (And.intro ta58 tz58)
theorem ta63 : szq Tryd.prog 63 = some 2 ∧ byq Tryd.prog 63 = some 16 ∧ agq Tryd.prog 63 = some true ∧ arq Tryd.prog 63 = none ∧ flq Tryd.prog 63 0 = some (3, 0, 1) ∧ flq Tryd.prog 63 1 = some (4, 1, 1) ∧ plq Tryd.prog 63 = some [(0, 1), (1, 1)] ∧ cmpq Tryd.prog 63 = some [1, 0] := by decide +kernel
theorem tz63 : zeq Tryd.prog 63 = some [.p (.i .i64 0), .p (.b false)] := by rfl
def ty63 := (And.intro ta63 tz63)
theorem ta64 : szq Tryd.prog 64 = some 1 ∧ byq Tryd.prog 64 = some 24 ∧ agq Tryd.prog 64 = some false ∧ elq Tryd.prog 64 = some 63 ∧ arq Tryd.prog 64 = none := by decide +kernel
theorem tz64 : zeq Tryd.prog 64 = some [.nilS] := by rfl
def ty64 := (And.intro ta64 tz64)
theorem ta72 : szq Tryd.prog 72 = some 3 ∧ byq Tryd.prog 72 = some 40 ∧ agq Tryd.prog 72 = some true ∧ arq Tryd.prog 72 = none ∧ flq Tryd.prog 72 0 = some (24, 0, 3) ∧ plq Tryd.prog 72 = some [(0, 3)] := by decide +kernel
theorem tz72 : zeq Tryd.prog 72 = some [.p (.i .i64 0), .p (.i .i64 0), .nilS] := by rfl
def ty72 := (And.intro ta72 tz72)
theorem ta77 : szq Tryd.prog 77 = some 1 ∧ byq Tryd.prog 77 = some 8 ∧ agq Tryd.prog 77 = some false ∧ arq Tryd.prog 77 = none := by decide +kernel
theorem tz77 : zeq Tryd.prog 77 = some [.p (.i .u64 0)] := by rfl
theorem tu77 : Tryd.prog.underlying 77 = some (.int .u64) := by rfl
def ty77 := (And.intro ta77 (And.intro tz77 tu77))
theorem ta107 : szq Tryd.prog 107 = some 1 ∧ byq Tryd.prog 107 = some 24 ∧ agq Tryd.prog 107 = some false ∧ elq Tryd.prog 107 = some 39 ∧ arq Tryd.prog 107 = none := by decide +kernel
theorem tz107 : zeq Tryd.prog 107 = some [.nilS] := by rfl
def ty107 := (And.intro ta107 tz107)
def q3 := (And.intro ty24 (And.intro ty28 (And.intro ty3 (And.intro ty26 (And.intro ty29 (And.intro ty22 (And.intro ty38 ty39)))))))
def q4 := (And.intro ty26 (And.intro ty53 (And.intro ty29 (And.intro ty58 (And.intro ty63 (And.intro ty64 (And.intro ty39 (And.intro ty3 (And.intro ty9 (And.intro ty56 (And.intro ty4 ty48)))))))))))
def q5 := (And.intro ty24 (And.intro ty22 (And.intro ty3 (And.intro ty38 ty26))))
def q6 := (And.intro ty24 (And.intro ty3 (And.intro ty22 ty38)))
def q7 := (And.intro ty24 (And.intro ty3 (And.intro ty22 ty38)))
def q8 := (And.intro ty26 ty3)
def q9 := ty3
def q10 := (And.intro ty24 (And.intro ty22 (And.intro ty3 (And.intro ty38 ty26))))
def q11 := (And.intro ty24 (And.intro ty26 (And.intro ty39 (And.intro ty72 (And.intro ty107 (And.intro ty3 (And.intro ty77 (And.intro ty22 ty38))))))))
def q12 := (And.intro ty24 (And.intro ty22 (And.intro ty3 (And.intro ty29 (And.intro ty38 ty26)))))
def q18 := (And.intro ty24 (And.intro ty58 (And.intro ty29 (And.intro ty107 (And.intro ty39 (And.intro ty72 (And.intro ty22 (And.intro ty56 (And.intro ty3 (And.intro ty77 (And.intro ty48 (And.intro ty38 ty26))))))))))))
def q22 := (And.intro ty24 (And.intro ty3 (And.intro ty22 (And.intro ty38 ty26))))
def q23 := (And.intro ty24 (And.intro ty22 (And.intro ty3 (And.intro ty38 ty26))))
def q24 := (And.intro ty24 (And.intro ty3 (And.intro ty22 ty38)))
def q25 := (And.intro ty107 (And.intro ty3 ty39))
def q26 := (And.intro ty72 (And.intro ty3 (And.intro ty24 ty22)))
def q27 := (And.intro ty26 ty3)
def q28 := (And.intro ty72 (And.intro ty26 (And.intro ty3 (And.intro ty24 ty22))))
def q33 := (And.intro ty72 (And.intro ty24 (And.intro ty22 (And.intro ty3 (And.intro ty38 ty26)))))
def q43 := (And.intro ty48 (And.intro ty3 ty26))
def q44 := (And.intro ty72 (And.intro ty3 (And.intro ty24 (And.intro ty22 (And.intro ty38 ty26)))))
def q54 := (And.intro ty24 (And.intro ty3 (And.intro ty22 (And.intro ty107 (And.intro ty39 (And.intro ty38 ty26))))))
def q55 := (And.intro ty26 (And.intro ty3 (And.intro ty107 ty39)))
def q56 := (And.intro ty72 (And.intro ty24 (And.intro ty22 (And.intro ty3 (And.intro ty38 ty26)))))
def q57 := (And.intro ty26 ty3)
def q58 := (And.intro ty26 ty3)
end Go.Vm
