import Derived.Test.YtbbcjhodcgakcaaDoorVmBC
import Derived.Test.YtbbcjhodcgakcaaDoorProg
set_option linter.all false
namespace Go.Vm
open Go.Proofs
set_option maxRecDepth 20000
set_option maxHeartbeats 8000000
def Γ0 : Nat → Option (List V)
 | 0 => some [.i .i64 0, .i .i64 20000]
 | 1 => some [.i .i64 1, .i .i64 100]
 | 2 => some [.i .i64 0, .i .i64 100]
 | 3 => some [.i .i64 0, .i .i64 1000]
 | 4 => some [.i .i64 1, .i .i64 1000]
 | _ => none
abbrev Sp0 : FuncId → List V → R → Prop := Spec Tryd.prog Γ0
abbrev nn (n : Int) : V := .i .i64 n
theorem mixed : Tryd.prog.follows .mixedOrders = true := by decide +kernel
theorem wr64 {n : Int} (h1 : -9223372036854775808 ≤ n) (h2 : n ≤ 9223372036854775807) : IntKind.wrap .i64 n = n := by
 simp [IntKind.wrap, IntKind.signed, IntKind.bits] <;> (try split) <;> omega
theorem mapnn {xs : List Int} : (∀ y, y ∈ List.map nn xs → y.cells.length = 1) = True := by
 simp only [List.mem_map, eq_iff_iff, iff_true]; rintro y ⟨a, _, rfl⟩; rfl
abbrev p2 (p : Int × Int) : V := .agg [nn p.1, nn p.2]
theorem mapp2 {xs : List (Int × Int)} : (∀ y, y ∈ List.map p2 xs → y.cells.length = 2) = True := by
 simp only [List.mem_map, eq_iff_iff, iff_true]; rintro y ⟨a, _, rfl⟩; rfl
theorem maxB : maxBytes = 1099511627776 := rfl
theorem mapDrop {α : Type} {f : α → V} {xs : List α} {n : Nat} : (xs.map f).drop n = (xs.drop n).map f := by rw [List.map_drop]
theorem mapTake {α : Type} {f : α → V} {xs : List α} {n : Nat} : (xs.map f).take n = (xs.take n).map f := by rw [List.map_take]
theorem mapApp {α : Type} {f : α → V} {xs ys : List α} : xs.map f ++ ys.map f = (xs ++ ys).map f := by rw [List.map_append]
theorem mapSnoc {xs : List Int} {y : Int} : xs.map nn ++ [V.i .i64 y] = (xs ++ [y]).map nn := by rw [List.map_append]; rfl
theorem mapSnoc2 {xs : List (Int × Int)} {y z : Int} : xs.map p2 ++ [V.agg [V.i .i64 y, V.i .i64 z]] = (xs ++ [(y, z)]).map p2 := by rw [List.map_append]; rfl
theorem mapRep {n : Nat} {a : Int} : List.replicate n (V.i .i64 a) = (List.replicate n a).map nn := by rw [List.map_replicate]
theorem mapSet {xs : List Int} {n : Nat} {a : Int} : (xs.map nn).set n (V.i .i64 a) = (xs.set n a).map nn := by rw [List.map_set]
theorem isNil_nn {σ : VS} {x : Int} {xs : List Int} : isNil σ (.p (.sl ((x :: xs).map nn))) = some false := rfl
theorem cast0' : ((0 : Nat) : Int) = 0 := rfl
theorem castPred {i : Nat} : ((i : Int) - 1).toNat = i - 1 := by omega
theorem castSucc {i : Nat} : ((i : Int) + 1).toNat = i + 1 := by omega
theorem toNat0 : Int.toNat 0 = 0 := rfl
theorem evg0 {σ : VS} : σ.ev Γ0 (.global 0) = .p (.ref [.i .i64 0, .i .i64 20000]) := Eq.trans rfl rfl
theorem evg1 {σ : VS} : σ.ev Γ0 (.global 1) = .p (.ref [.i .i64 1, .i .i64 100]) := Eq.trans rfl rfl
theorem evg2 {σ : VS} : σ.ev Γ0 (.global 2) = .p (.ref [.i .i64 0, .i .i64 100]) := Eq.trans rfl rfl
theorem evg3 {σ : VS} : σ.ev Γ0 (.global 3) = .p (.ref [.i .i64 0, .i .i64 1000]) := Eq.trans rfl rfl
theorem evg4 {σ : VS} : σ.ev Γ0 (.global 4) = .p (.ref [.i .i64 1, .i .i64 1000]) := Eq.trans rfl rfl
theorem winM_0 : winM Γ0 = false := Eq.trans rfl rfl
def vp := And.intro @winM_0 <| And.intro (@Option.map_none.{0, 0}) <| And.intro @evg0 <| And.intro @evg1 <| And.intro @evg2 <| And.intro @evg3 <| And.intro @evg4 <| And.intro @toNat0 <| And.intro @castPred <| And.intro @castSucc <| And.intro @mapnn (And.intro @mapp2 (And.intro @maxB (And.intro @mapDrop (And.intro @mapTake (And.intro @mapApp (And.intro @mapSnoc (And.intro @mapSnoc2 (And.intro @mapRep (And.intro @mapSet (And.intro @isNil_nn @cast0'))))))))))
theorem ta3 : szq Tryd.prog 3 = some 1 ∧ byq Tryd.prog 3 = some 8 ∧ agq Tryd.prog 3 = some false ∧ arq Tryd.prog 3 = none := by decide +kernel
theorem tz3 : zeq Tryd.prog 3 = some [.p (.i .i64 0)] := by rfl
theorem tu3 : Tryd.prog.underlying 3 = some (.int .i64) := by rfl
def ty3 := (And.intro ta3 (And.intro tz3 tu3))
theorem ta4 : szq Tryd.prog 4 = some 1 ∧ byq Tryd.prog 4 = some 1 ∧ agq Tryd.prog 4 = some false ∧ arq Tryd.prog 4 = none ∧ isBool Tryd.prog 4 = true := by decide +kernel
theorem tz4 : zeq Tryd.prog 4 = some [.p (.b false)] := by rfl
def ty4 := (And.intro ta4 tz4)
theorem ta5 : szq Tryd.prog 5 = some 1 ∧ byq Tryd.prog 5 = some 1 ∧ agq Tryd.prog 5 = some false ∧ arq Tryd.prog 5 = none := by decide +kernel
theorem tz5 : zeq Tryd.prog 5 = some [.p (.i .u8 0)] := by rfl
theorem tu5 : Tryd.prog.underlying 5 = some (.int .u8) := by rfl
def ty5 := (And.intro ta5 (And.intro tz5 tu5))
theorem ta9 : szq Tryd.prog 9 = some 1 ∧ byq Tryd.prog 9 = some 16 ∧ agq Tryd.prog 9 = some false ∧ arq Tryd.prog 9 = none ∧ isStr Tryd.prog 9 = true := by decide +kernel
theorem tz9 : zeq Tryd.prog 9 = some [.p (.s ByteArray.empty)] := by rfl
theorem tu9 : Tryd.prog.underlying 9 = some .string := by rfl
def ty9 := (And.intro ta9 (And.intro tz9 tu9))
theorem ta23 : szq Tryd.prog 23 = some 2 ∧ byq Tryd.prog 23 = some 16 ∧ agq Tryd.prog 23 = some true ∧ arq Tryd.prog 23 = none ∧ flq Tryd.prog 23 0 = some (3, 0, 1) ∧ flq Tryd.prog 23 1 = some (3, 1, 1) ∧ plq Tryd.prog 23 = some [(0, 1), (1, 1)] ∧ cmpq Tryd.prog 23 = some [1, 1] := by decide +kernel
theorem tz23 : zeq Tryd.prog 23 = some [.p (.i .i64 0), .p (.i .i64 0)] := by rfl
def ty23 := (And.intro ta23 tz23)
theorem ta24 : szq Tryd.prog 24 = some 1 ∧ byq Tryd.prog 24 = some 24 ∧ agq Tryd.prog 24 = some false ∧ elq Tryd.prog 24 = some 44 ∧ arq Tryd.prog 24 = none := by decide +kernel
theorem tz24 : zeq Tryd.prog 24 = some [.nilS] := by rfl
def ty24 := (And.intro ta24 tz24)
theorem ta26 : szq Tryd.prog 26 = some 11 ∧ byq Tryd.prog 26 = some 104 ∧ agq Tryd.prog 26 = some true ∧ arq Tryd.prog 26 = none ∧ flq Tryd.prog 26 0 = some (3, 0, 1) ∧ flq Tryd.prog 26 1 = some (3, 1, 1) ∧ flq Tryd.prog 26 2 = some (3, 2, 1) ∧ flq Tryd.prog 26 3 = some (23, 3, 2) ∧ flq Tryd.prog 26 4 = some (3, 5, 1) ∧ flq Tryd.prog 26 5 = some (24, 6, 1) ∧ flq Tryd.prog 26 6 = some (23, 7, 2) ∧ flq Tryd.prog 26 7 = some (23, 9, 2) ∧ plq Tryd.prog 26 = some [(0, 1), (1, 1), (2, 1), (3, 2), (5, 1), (6, 1), (7, 2), (9, 2)] := by decide +kernel
theorem tz26 : zeq Tryd.prog 26 = some [.p (.i .i64 0), .p (.i .i64 0), .p (.i .i64 0), .p (.i .i64 0), .p (.i .i64 0), .p (.i .i64 0), .nilS, .p (.i .i64 0), .p (.i .i64 0), .p (.i .i64 0), .p (.i .i64 0)] := by rfl
def ty26 := (And.intro ta26 tz26)
theorem ta29 : szq Tryd.prog 29 = some 1 ∧ byq Tryd.prog 29 = some 24 ∧ agq Tryd.prog 29 = some false ∧ elq Tryd.prog 29 = some 3 ∧ arq Tryd.prog 29 = none := by decide +kernel
theorem tz29 : zeq Tryd.prog 29 = some [.nilS] := by rfl
def ty29 := (And.intro ta29 tz29)
theorem ta31 : szq Tryd.prog 31 = some 2 ∧ byq Tryd.prog 31 = some 40 ∧ agq Tryd.prog 31 = some true ∧ arq Tryd.prog 31 = none ∧ flq Tryd.prog 31 0 = some (9, 0, 1) ∧ flq Tryd.prog 31 1 = some (29, 1, 1) ∧ plq Tryd.prog 31 = some [(0, 1), (1, 1)] := by decide +kernel
theorem tz31 : zeq Tryd.prog 31 = some [.p (.s ByteArray.empty), .nilS] := by rfl
def ty31 := (And.intro ta31 tz31)
theorem ta36 : szq Tryd.prog 36 = some 2 ∧ byq Tryd.prog 36 = some 32 ∧ agq Tryd.prog 36 = some true ∧ arq Tryd.prog 36 = none ∧ flq Tryd.prog 36 0 = some (3, 0, 1) ∧ flq Tryd.prog 36 1 = some (29, 1, 1) ∧ plq Tryd.prog 36 = some [(0, 1), (1, 1)] := by decide +kernel
theorem tz36 : zeq Tryd.prog 36 = some [.p (.i .i64 0), .nilS] := by rfl
def ty36 := (And.intro ta36 tz36)
theorem ta37 : szq Tryd.prog 37 = some 1 ∧ byq Tryd.prog 37 = some 8 ∧ agq Tryd.prog 37 = some false ∧ arq Tryd.prog 37 = none := by decide +kernel
theorem tz37 : zeq Tryd.prog 37 = some [.p (.i .i64 0)] := by rfl
theorem tu37 : Tryd.prog.underlying 37 = some (.int .i64) := by rfl
def ty37 := (And.intro ta37 (And.intro tz37 tu37))
theorem ta44 : szq Tryd.prog 44 = some 5 ∧ byq Tryd.prog 44 = some 40 ∧ agq Tryd.prog 44 = some true ∧ arq Tryd.prog 44 = none ∧ flq Tryd.prog 44 0 = some (3, 0, 1) ∧ flq Tryd.prog 44 1 = some (3, 1, 1) ∧ flq Tryd.prog 44 2 = some (3, 2, 1) ∧ flq Tryd.prog 44 3 = some (23, 3, 2) ∧ plq Tryd.prog 44 = some [(0, 1), (1, 1), (2, 1), (3, 2)] ∧ cmpq Tryd.prog 44 = some [1, 1, 1, 1, 1] := by decide +kernel
theorem tz44 : zeq Tryd.prog 44 = some [.p (.i .i64 0), .p (.i .i64 0), .p (.i .i64 0), .p (.i .i64 0), .p (.i .i64 0)] := by rfl
def ty44 := (And.intro ta44 tz44)
theorem ta45 : szq Tryd.prog 45 = some 1 ∧ byq Tryd.prog 45 = some 24 ∧ agq Tryd.prog 45 = some false ∧ elq Tryd.prog 45 = some 29 ∧ arq Tryd.prog 45 = none := by decide +kernel
theorem tz45 : zeq Tryd.prog 45 = some [.nilS] := by rfl
def ty45 := (And.intro ta45 tz45)
theorem ta47 : szq Tryd.prog 47 = some 2 ∧ byq Tryd.prog 47 = some 32 ∧ agq Tryd.prog 47 = some true ∧ arq Tryd.prog 47 = none ∧ flq Tryd.prog 47 0 = some (3, 0, 1) ∧ flq Tryd.prog 47 1 = some (45, 1, 1) ∧ plq Tryd.prog 47 = some [(0, 1), (1, 1)] := by decide +kernel
theorem tz47 : zeq Tryd.prog 47 = some [.p (.i .i64 0), .nilS] := by rfl
def ty47 := (And.intro ta47 tz47)
theorem ta64 : szq Tryd.prog 64 = some 1 ∧ byq Tryd.prog 64 = some 24 ∧ agq Tryd.prog 64 = some false ∧ elq Tryd.prog 64 = some 75 ∧ arq Tryd.prog 64 = none := by decide +kernel
theorem tz64 : zeq Tryd.prog 64 = some [.nilS] := by rfl
def ty64 := (And.intro ta64 tz64)
theorem ta70 : szq Tryd.prog 70 = some 4 ∧ byq Tryd.prog 70 = some 48 ∧ agq Tryd.prog 70 = some true ∧ arq Tryd.prog 70 = none ∧ flq Tryd.prog 70 0 = some (3, 0, 1) ∧ flq Tryd.prog 70 1 = some (3, 1, 1) ∧ flq Tryd.prog 70 2 = some (3, 2, 1) ∧ flq Tryd.prog 70 3 = some (29, 3, 1) ∧ plq Tryd.prog 70 = some [(0, 1), (1, 1), (2, 1), (3, 1)] := by decide +kernel
theorem tz70 : zeq Tryd.prog 70 = some [.p (.i .i64 0), .p (.i .i64 0), .p (.i .i64 0), .nilS] := by rfl
def ty70 := (And.intro ta70 tz70)
theorem ta75 : szq Tryd.prog 75 = some 2 ∧ byq Tryd.prog 75 = some 16 ∧ agq Tryd.prog 75 = some true ∧ arq Tryd.prog 75 = none ∧ flq Tryd.prog 75 0 = some (3, 0, 1) ∧ flq Tryd.prog 75 1 = some (3, 1, 1) ∧ plq Tryd.prog 75 = some [(0, 1), (1, 1)] ∧ cmpq Tryd.prog 75 = some [1, 1] := by decide +kernel
theorem tz75 : zeq Tryd.prog 75 = some [.p (.i .i64 0), .p (.i .i64 0)] := by rfl
def ty75 := (And.intro ta75 tz75)
theorem ta81 : szq Tryd.prog 81 = some 1 ∧ byq Tryd.prog 81 = some 24 ∧ agq Tryd.prog 81 = some false ∧ elq Tryd.prog 81 = some 23 ∧ arq Tryd.prog 81 = none := by decide +kernel
theorem tz81 : zeq Tryd.prog 81 = some [.nilS] := by rfl
def ty81 := (And.intro ta81 tz81)
theorem ta83 : szq Tryd.prog 83 = some 12 ∧ byq Tryd.prog 83 = some 128 ∧ agq Tryd.prog 83 = some true ∧ arq Tryd.prog 83 = none ∧ flq Tryd.prog 83 0 = some (26, 0, 11) ∧ flq Tryd.prog 83 1 = some (81, 11, 1) ∧ plq Tryd.prog 83 = some [(0, 11), (11, 1)] := by decide +kernel
theorem tz83 : zeq Tryd.prog 83 = some [.p (.i .i64 0), .p (.i .i64 0), .p (.i .i64 0), .p (.i .i64 0), .p (.i .i64 0), .p (.i .i64 0), .nilS, .p (.i .i64 0), .p (.i .i64 0), .p (.i .i64 0), .p (.i .i64 0), .nilS] := by rfl
def ty83 := (And.intro ta83 tz83)
theorem ta85 : szq Tryd.prog 85 = some 13 ∧ byq Tryd.prog 85 = some 152 ∧ agq Tryd.prog 85 = some true ∧ arq Tryd.prog 85 = none ∧ flq Tryd.prog 85 0 = some (83, 0, 12) ∧ flq Tryd.prog 85 1 = some (29, 12, 1) ∧ plq Tryd.prog 85 = some [(0, 12), (12, 1)] := by decide +kernel
theorem tz85 : zeq Tryd.prog 85 = some [.p (.i .i64 0), .p (.i .i64 0), .p (.i .i64 0), .p (.i .i64 0), .p (.i .i64 0), .p (.i .i64 0), .nilS, .p (.i .i64 0), .p (.i .i64 0), .p (.i .i64 0), .p (.i .i64 0), .nilS, .nilS] := by rfl
def ty85 := (And.intro ta85 tz85)
theorem ta88 : szq Tryd.prog 88 = some 1 ∧ byq Tryd.prog 88 = some 24 ∧ agq Tryd.prog 88 = some false ∧ elq Tryd.prog 88 = some 4 ∧ arq Tryd.prog 88 = none := by decide +kernel
theorem tz88 : zeq Tryd.prog 88 = some [.nilS] := by rfl
def ty88 := (And.intro ta88 tz88)
theorem ta99 : szq Tryd.prog 99 = some 3 ∧ byq Tryd.prog 99 = some 24 ∧ agq Tryd.prog 99 = some true ∧ arq Tryd.prog 99 = none ∧ flq Tryd.prog 99 0 = some (3, 0, 1) ∧ flq Tryd.prog 99 1 = some (3, 1, 1) ∧ flq Tryd.prog 99 2 = some (3, 2, 1) ∧ plq Tryd.prog 99 = some [(0, 1), (1, 1), (2, 1)] ∧ cmpq Tryd.prog 99 = some [1, 1, 1] := by decide +kernel
theorem tz99 : zeq Tryd.prog 99 = some [.p (.i .i64 0), .p (.i .i64 0), .p (.i .i64 0)] := by rfl
def ty99 := (And.intro ta99 tz99)
theorem ta100 : szq Tryd.prog 100 = some 2 ∧ byq Tryd.prog 100 = some 16 ∧ agq Tryd.prog 100 = some true ∧ arq Tryd.prog 100 = some (2, 3) ∧ plq Tryd.prog 100 = some [(0, 1), (1, 1)] ∧ cmpq Tryd.prog 100 = some [1, 1] := by decide +kernel
theorem tz100 : zeq Tryd.prog 100 = some [.p (.i .i64 0), .p (.i .i64 0)] := by rfl
def ty100 := (And.intro ta100 tz100)
theorem ta101 : szq Tryd.prog 101 = some 1 ∧ byq Tryd.prog 101 = some 8 ∧ agq Tryd.prog 101 = some false ∧ arq Tryd.prog 101 = none := by decide +kernel
theorem tz101 : zeq Tryd.prog 101 = some [.p .nilFn] := by rfl
def ty101 := (And.intro ta101 tz101)
theorem ta103 : szq Tryd.prog 103 = some 1 ∧ byq Tryd.prog 103 = some 24 ∧ agq Tryd.prog 103 = some false ∧ elq Tryd.prog 103 = some 99 ∧ arq Tryd.prog 103 = none := by decide +kernel
theorem tz103 : zeq Tryd.prog 103 = some [.nilS] := by rfl
def ty103 := (And.intro ta103 tz103)
theorem ta107 : szq Tryd.prog 107 = some 3 ∧ byq Tryd.prog 107 = some 24 ∧ agq Tryd.prog 107 = some true ∧ arq Tryd.prog 107 = none ∧ flq Tryd.prog 107 0 = some (23, 0, 2) ∧ flq Tryd.prog 107 1 = some (3, 2, 1) ∧ plq Tryd.prog 107 = some [(0, 2), (2, 1)] ∧ cmpq Tryd.prog 107 = some [1, 1, 1] := by decide +kernel
theorem tz107 : zeq Tryd.prog 107 = some [.p (.i .i64 0), .p (.i .i64 0), .p (.i .i64 0)] := by rfl
def ty107 := (And.intro ta107 tz107)
theorem ta108 : szq Tryd.prog 108 = some 12 ∧ byq Tryd.prog 108 = some 96 ∧ agq Tryd.prog 108 = some true ∧ arq Tryd.prog 108 = some (4, 107) ∧ plq Tryd.prog 108 = some [(0, 3), (3, 3), (6, 3), (9, 3)] := by decide +kernel
theorem tz108 : zeq Tryd.prog 108 = some [.p (.i .i64 0), .p (.i .i64 0), .p (.i .i64 0), .p (.i .i64 0), .p (.i .i64 0), .p (.i .i64 0), .p (.i .i64 0), .p (.i .i64 0), .p (.i .i64 0), .p (.i .i64 0), .p (.i .i64 0), .p (.i .i64 0)] := by rfl
def ty108 := (And.intro ta108 tz108)
theorem ta136 : szq Tryd.prog 136 = some 1 ∧ byq Tryd.prog 136 = some 24 ∧ agq Tryd.prog 136 = some false ∧ elq Tryd.prog 136 = some 37 ∧ arq Tryd.prog 136 = none := by decide +kernel
theorem tz136 : zeq Tryd.prog 136 = some [.nilS] := by rfl
def ty136 := (And.intro ta136 tz136)
theorem ta141 : szq Tryd.prog 141 = some 2 ∧ byq Tryd.prog 141 = some 16 ∧ agq Tryd.prog 141 = some true ∧ arq Tryd.prog 141 = none ∧ flq Tryd.prog 141 0 = some (3, 0, 1) ∧ flq Tryd.prog 141 1 = some (3, 1, 1) ∧ plq Tryd.prog 141 = some [(0, 1), (1, 1)] ∧ cmpq Tryd.prog 141 = some [1, 1] := by decide +kernel
theorem tz141 : zeq Tryd.prog 141 = some [.p (.i .i64 0), .p (.i .i64 0)] := by rfl
def ty141 := (And.intro ta141 tz141)
theorem ta152 : szq Tryd.prog 152 = some 1 ∧ byq Tryd.prog 152 = some 24 ∧ agq Tryd.prog 152 = some false ∧ elq Tryd.prog 152 = some 5 ∧ arq Tryd.prog 152 = none := by decide +kernel
theorem tz152 : zeq Tryd.prog 152 = some [.nilS] := by rfl
theorem tu152 : Tryd.prog.underlying 152 = some (.slice 5) := by rfl
def ty152 := (And.intro ta152 (And.intro tz152 tu152))
def q3 := (And.intro ty26 (And.intro ty31 (And.intro ty3 (And.intro ty36 (And.intro ty37 (And.intro ty29 (And.intro ty24 (And.intro ty44 (And.intro ty23 ty9)))))))))
def q4 := (And.intro ty26 (And.intro ty31 (And.intro ty47 (And.intro ty3 (And.intro ty45 (And.intro ty36 (And.intro ty37 (And.intro ty24 (And.intro ty23 (And.intro ty9 (And.intro ty29 ty44)))))))))))
def q5 := (And.intro ty31 (And.intro ty26 (And.intro ty24 (And.intro ty36 (And.intro ty29 (And.intro ty70 (And.intro ty37 (And.intro ty3 (And.intro ty64 (And.intro ty9 (And.intro ty23 (And.intro ty44 ty75))))))))))))
def q6 := (And.intro ty26 (And.intro ty31 (And.intro ty24 (And.intro ty3 (And.intro ty29 (And.intro ty9 (And.intro ty23 ty44)))))))
def q7 := (And.intro ty26 (And.intro ty3 (And.intro ty23 (And.intro ty24 ty44))))
def q8 := (And.intro ty26 (And.intro ty29 (And.intro ty3 (And.intro ty23 (And.intro ty24 ty44)))))
def q9 := (And.intro ty26 (And.intro ty3 (And.intro ty29 (And.intro ty23 (And.intro ty24 ty44)))))
def q10 := (And.intro ty26 (And.intro ty36 (And.intro ty85 (And.intro ty37 (And.intro ty29 (And.intro ty88 (And.intro ty4 (And.intro ty83 (And.intro ty24 (And.intro ty3 (And.intro ty23 (And.intro ty81 ty44))))))))))))
def q11 := (And.intro ty26 (And.intro ty24 (And.intro ty3 (And.intro ty23 ty44))))
def q14 := (And.intro ty45 (And.intro ty3 ty29))
def q15 := (And.intro ty26 (And.intro ty31 (And.intro ty85 (And.intro ty45 (And.intro ty37 (And.intro ty3 (And.intro ty83 (And.intro ty24 (And.intro ty99 (And.intro ty100 (And.intro ty29 (And.intro ty23 (And.intro ty9 (And.intro ty81 ty44))))))))))))))
def q16 := (And.intro ty26 (And.intro ty85 (And.intro ty37 (And.intro ty45 (And.intro ty29 (And.intro ty3 (And.intro ty23 (And.intro ty24 (And.intro ty83 (And.intro ty44 ty81))))))))))
def q17 := (And.intro ty26 (And.intro ty31 (And.intro ty3 (And.intro ty23 (And.intro ty24 (And.intro ty9 (And.intro ty29 ty44)))))))
def q18 := (And.intro ty26 (And.intro ty31 (And.intro ty29 (And.intro ty3 (And.intro ty23 (And.intro ty24 (And.intro ty9 ty44)))))))
def q19 := (And.intro ty26 (And.intro ty31 (And.intro ty83 (And.intro ty37 (And.intro ty103 (And.intro ty3 (And.intro ty99 (And.intro ty108 (And.intro ty107 (And.intro ty23 (And.intro ty24 (And.intro ty9 (And.intro ty29 (And.intro ty81 ty44))))))))))))))
def q20 := (And.intro ty31 (And.intro ty9 (And.intro ty29 ty3)))
def q21 := (And.intro ty26 (And.intro ty31 (And.intro ty83 (And.intro ty37 (And.intro ty103 (And.intro ty3 (And.intro ty99 (And.intro ty23 (And.intro ty24 (And.intro ty9 (And.intro ty29 (And.intro ty81 ty44))))))))))))
def q22 := (And.intro ty26 (And.intro ty85 (And.intro ty37 (And.intro ty3 (And.intro ty23 (And.intro ty24 (And.intro ty83 (And.intro ty29 (And.intro ty44 ty81)))))))))
def q23 := (And.intro ty26 (And.intro ty45 (And.intro ty3 (And.intro ty37 (And.intro ty85 (And.intro ty83 (And.intro ty24 (And.intro ty29 (And.intro ty99 (And.intro ty100 (And.intro ty23 (And.intro ty81 ty44))))))))))))
def q24 := (And.intro ty45 (And.intro ty3 ty29))
def q34 := (And.intro ty26 (And.intro ty3 (And.intro ty23 (And.intro ty24 ty44))))
def q35 := (And.intro ty26 (And.intro ty3 (And.intro ty29 (And.intro ty23 (And.intro ty24 ty44)))))
def q36 := (And.intro ty26 (And.intro ty85 (And.intro ty136 (And.intro ty37 (And.intro ty3 (And.intro ty29 (And.intro ty23 (And.intro ty24 (And.intro ty83 (And.intro ty44 ty81))))))))))
def q37 := (And.intro ty85 (And.intro ty88 (And.intro ty29 (And.intro ty83 (And.intro ty26 (And.intro ty24 (And.intro ty3 (And.intro ty4 (And.intro ty100 (And.intro ty81 (And.intro ty23 ty44)))))))))))
def q38 := (And.intro ty29 ty3)
def q40 := (And.intro ty85 (And.intro ty3 (And.intro ty88 (And.intro ty29 (And.intro ty83 (And.intro ty4 (And.intro ty26 ty81)))))))
def q41 := (And.intro ty26 (And.intro ty85 (And.intro ty37 (And.intro ty45 (And.intro ty29 (And.intro ty3 (And.intro ty23 (And.intro ty24 (And.intro ty83 (And.intro ty44 ty81))))))))))
def q42 := (And.intro ty85 (And.intro ty83 (And.intro ty29 (And.intro ty26 (And.intro ty81 (And.intro ty3 (And.intro ty23 ty24)))))))
def q44 := (And.intro ty83 (And.intro ty99 (And.intro ty23 (And.intro ty3 (And.intro ty26 (And.intro ty81 ty24))))))
def q46 := (And.intro ty26 (And.intro ty31 (And.intro ty9 (And.intro ty29 (And.intro ty24 (And.intro ty3 (And.intro ty23 ty44)))))))
def q47 := (And.intro ty26 (And.intro ty31 (And.intro ty83 (And.intro ty37 (And.intro ty3 (And.intro ty29 (And.intro ty99 (And.intro ty103 (And.intro ty23 (And.intro ty24 (And.intro ty9 (And.intro ty81 ty44))))))))))))
def q48 := (And.intro ty83 (And.intro ty99 (And.intro ty108 (And.intro ty26 (And.intro ty24 (And.intro ty3 (And.intro ty44 (And.intro ty23 (And.intro ty107 ty81)))))))))
def q49 := (And.intro ty29 ty3)
def q51 := (And.intro ty29 (And.intro ty85 (And.intro ty3 (And.intro ty83 (And.intro ty26 ty81)))))
def q53 := (And.intro ty136 (And.intro ty3 ty37))
def q61 := (And.intro ty26 (And.intro ty83 (And.intro ty23 (And.intro ty24 (And.intro ty3 (And.intro ty44 ty81))))))
def q63 := (And.intro ty83 (And.intro ty99 (And.intro ty23 (And.intro ty81 (And.intro ty3 (And.intro ty26 (And.intro ty24 ty44)))))))
def q68 := (And.intro ty26 (And.intro ty3 (And.intro ty141 (And.intro ty23 (And.intro ty81 (And.intro ty24 (And.intro ty136 (And.intro ty37 ty44))))))))
def q69 := (And.intro ty141 ty3)
def q70 := (And.intro ty88 (And.intro ty3 ty4))
def q72 := (And.intro ty85 (And.intro ty101 (And.intro ty83 (And.intro ty26 (And.intro ty24 (And.intro ty3 (And.intro ty45 (And.intro ty29 (And.intro ty99 (And.intro ty100 (And.intro ty81 (And.intro ty23 ty44))))))))))))
def q73 := (And.intro ty85 (And.intro ty29 (And.intro ty3 (And.intro ty99 (And.intro ty83 (And.intro ty108 (And.intro ty100 (And.intro ty26 (And.intro ty81 (And.intro ty107 (And.intro ty23 ty24)))))))))))
def q75 := (And.intro ty108 (And.intro ty107 (And.intro ty23 ty3)))
def q76 := (And.intro ty83 (And.intro ty99 (And.intro ty23 (And.intro ty26 (And.intro ty3 (And.intro ty81 (And.intro ty24 ty44)))))))
def q77 := (And.intro ty99 ty3)
def q78 := (And.intro ty99 ty3)
def q79 := (And.intro ty9 (And.intro ty3 ty5))
def q80 := (And.intro ty26 (And.intro ty31 (And.intro ty37 (And.intro ty9 (And.intro ty29 (And.intro ty24 (And.intro ty3 (And.intro ty136 (And.intro ty23 ty44)))))))))
def q81 := (And.intro ty83 (And.intro ty99 (And.intro ty3 (And.intro ty26 (And.intro ty24 (And.intro ty44 (And.intro ty81 ty23)))))))
def q82 := (And.intro ty45 (And.intro ty3 ty29))
def q85 := (And.intro ty83 (And.intro ty99 (And.intro ty3 (And.intro ty26 (And.intro ty81 (And.intro ty23 (And.intro ty24 ty44)))))))
def q87 := (And.intro ty141 (And.intro ty23 ty3))
def q92 := (And.intro ty29 ty3)
def q93 := (And.intro ty83 (And.intro ty99 (And.intro ty3 (And.intro ty26 (And.intro ty81 (And.intro ty23 (And.intro ty24 ty44)))))))
def q94 := (And.intro ty9 (And.intro ty152 (And.intro ty3 ty5)))
def q96 := (And.intro ty23 ty3)
def q97 := (And.intro ty29 ty3)
def q99 := (And.intro ty81 (And.intro ty3 ty23))
end Go.Vm
