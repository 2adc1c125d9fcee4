import Derived.Test.YteegjkaoihcebaaGreatDoorVmBC
import Derived.Test.YteegjkaoihcebaaGreatDoorProg
set_option linter.all false
namespace Go.Vm
open Go.Proofs
set_option maxRecDepth 20000
set_option maxHeartbeats 8000000
def Γ0 : Nat → Option (List V)
  | 0 => some [.i .i64 0, .i .i64 20000]
  | 1 => some [.i .i64 1, .i .i64 100]
  | 2 => some [.i .i64 0, .i .i64 100]
  | 3 => some [.i .i64 0, .i .i64 1000]
  | 4 => some [.i .i64 1, .i .i64 1000]
  | _ => none
abbrev Sp0 : FuncId → List V → R → Prop := Spec Tryz.prog Γ0
abbrev nn (n : Int) : V := .i .i64 n
theorem mixed : Tryz.prog.follows .mixedOrders = true := by decide +kernel
theorem wr64 {n : Int} (h1 : -9223372036854775808 ≤ n) (h2 : n ≤ 9223372036854775807) : IntKind.wrap .i64 n = n := by
  simp [IntKind.wrap, IntKind.signed, IntKind.bits] <;> (try split) <;> omega
theorem mapnn {xs : List Int} : (∀ y, y ∈ List.map nn xs → y.cells.length = 1) = True := by
  simp only [List.mem_map, eq_iff_iff, iff_true]; rintro y ⟨a, _, rfl⟩; rfl
abbrev p2 (p : Int × Int) : V := .agg [nn p.1, nn p.2]
theorem mapp2 {xs : List (Int × Int)} : (∀ y, y ∈ List.map p2 xs → y.cells.length = 2) = True := by
  simp only [List.mem_map, eq_iff_iff, iff_true]; rintro y ⟨a, _, rfl⟩; rfl
theorem maxB : maxBytes = 1099511627776 := rfl
theorem mapDrop {α : Type} {f : α → V} {xs : List α} {n : Nat} : (xs.map f).drop n = (xs.drop n).map f := by rw [List.map_drop]
theorem mapTake {α : Type} {f : α → V} {xs : List α} {n : Nat} : (xs.map f).take n = (xs.take n).map f := by rw [List.map_take]
theorem mapApp {α : Type} {f : α → V} {xs ys : List α} : xs.map f ++ ys.map f = (xs ++ ys).map f := by rw [List.map_append]
theorem mapSnoc {xs : List Int} {y : Int} : xs.map nn ++ [V.i .i64 y] = (xs ++ [y]).map nn := by rw [List.map_append]; rfl
theorem mapSnoc2 {xs : List (Int × Int)} {y z : Int} : xs.map p2 ++ [V.agg [V.i .i64 y, V.i .i64 z]] = (xs ++ [(y, z)]).map p2 := by rw [List.map_append]; rfl
theorem mapRep {n : Nat} {a : Int} : List.replicate n (V.i .i64 a) = (List.replicate n a).map nn := by rw [List.map_replicate]
theorem mapSet {xs : List Int} {n : Nat} {a : Int} : (xs.map nn).set n (V.i .i64 a) = (xs.set n a).map nn := by rw [List.map_set]
theorem isNil_nn {σ : VS} {x : Int} {xs : List Int} : isNil σ (.p (.sl ((x :: xs).map nn))) = some false := rfl
theorem cast0' : ((0 : Nat) : Int) = 0 := rfl
theorem castPred {i : Nat} : ((i : Int) - 1).toNat = i - 1 := by omega
theorem castSucc {i : Nat} : ((i : Int) + 1).toNat = i + 1 := by omega
theorem toNat0 : Int.toNat 0 = 0 := rfl
theorem evg0 {σ : VS} : σ.ev Γ0 (.global 0) = .p (.ref [.i .i64 0, .i .i64 20000]) := Eq.trans rfl rfl
theorem evg1 {σ : VS} : σ.ev Γ0 (.global 1) = .p (.ref [.i .i64 1, .i .i64 100]) := Eq.trans rfl rfl
theorem evg2 {σ : VS} : σ.ev Γ0 (.global 2) = .p (.ref [.i .i64 0, .i .i64 100]) := Eq.trans rfl rfl
theorem evg3 {σ : VS} : σ.ev Γ0 (.global 3) = .p (.ref [.i .i64 0, .i .i64 1000]) := Eq.trans rfl rfl
theorem evg4 {σ : VS} : σ.ev Γ0 (.global 4) = .p (.ref [.i .i64 1, .i .i64 1000]) := Eq.trans rfl rfl
theorem winM_0 : winM Γ0 = false := Eq.trans rfl rfl
def vp := And.intro @winM_0 <| And.intro (@Option.map_none.{0, 0}) <| And.intro @evg0 <| And.intro @evg1 <| And.intro @evg2 <| And.intro @evg3 <| And.intro @evg4 <| And.intro @toNat0 <| And.intro @castPred <| And.intro @castSucc <| And.intro @mapnn (And.intro @mapp2 (And.intro @maxB (And.intro @mapDrop (And.intro @mapTake (And.intro @mapApp (And.intro @mapSnoc (And.intro @mapSnoc2 (And.intro @mapRep (And.intro @mapSet (And.intro @isNil_nn @cast0'))))))))))
theorem ta3 : szq Tryz.prog 3 = some 1 ∧ byq Tryz.prog 3 = some 8 ∧ agq Tryz.prog 3 = some false ∧ arq Tryz.prog 3 = none := by decide +kernel
theorem tz3 : zeq Tryz.prog 3 = some [.p (.i .i64 0)] := by rfl
theorem tu3 : Tryz.prog.underlying 3 = some (.int .i64) := by rfl
def ty3 := (And.intro ta3 (And.intro tz3 tu3))
theorem ta4 : szq Tryz.prog 4 = some 1 ∧ byq Tryz.prog 4 = some 1 ∧ agq Tryz.prog 4 = some false ∧ arq Tryz.prog 4 = none ∧ isBool Tryz.prog 4 = true := by decide +kernel
theorem tz4 : zeq Tryz.prog 4 = some [.p (.b false)] := by rfl
def ty4 := (And.intro ta4 tz4)
theorem ta9 : szq Tryz.prog 9 = some 1 ∧ byq Tryz.prog 9 = some 16 ∧ agq Tryz.prog 9 = some false ∧ arq Tryz.prog 9 = none ∧ isStr Tryz.prog 9 = true := by decide +kernel
theorem tz9 : zeq Tryz.prog 9 = some [.p (.s ByteArray.empty)] := by rfl
theorem tu9 : Tryz.prog.underlying 9 = some .string := by rfl
def ty9 := (And.intro ta9 (And.intro tz9 tu9))
theorem ta23 : szq Tryz.prog 23 = some 2 ∧ byq Tryz.prog 23 = some 16 ∧ agq Tryz.prog 23 = some true ∧ arq Tryz.prog 23 = none ∧ flq Tryz.prog 23 0 = some (3, 0, 1) ∧ flq Tryz.prog 23 1 = some (3, 1, 1) ∧ plq Tryz.prog 23 = some [(0, 1), (1, 1)] ∧ cmpq Tryz.prog 23 = some [1, 1] := by decide +kernel
theorem tz23 : zeq Tryz.prog 23 = some [.p (.i .i64 0), .p (.i .i64 0)] := by rfl
def ty23 := (And.intro ta23 tz23)
theorem ta24 : szq Tryz.prog 24 = some 1 ∧ byq Tryz.prog 24 = some 24 ∧ agq Tryz.prog 24 = some false ∧ elq Tryz.prog 24 = some 123 ∧ arq Tryz.prog 24 = none := by decide +kernel
theorem tz24 : zeq Tryz.prog 24 = some [.nilS] := by rfl
def ty24 := (And.intro ta24 tz24)
theorem ta26 : szq Tryz.prog 26 = some 11 ∧ byq Tryz.prog 26 = some 104 ∧ agq Tryz.prog 26 = some true ∧ arq Tryz.prog 26 = none ∧ flq Tryz.prog 26 0 = some (3, 0, 1) ∧ flq Tryz.prog 26 1 = some (3, 1, 1) ∧ flq Tryz.prog 26 2 = some (3, 2, 1) ∧ flq Tryz.prog 26 3 = some (23, 3, 2) ∧ flq Tryz.prog 26 4 = some (3, 5, 1) ∧ flq Tryz.prog 26 5 = some (24, 6, 1) ∧ flq Tryz.prog 26 6 = some (23, 7, 2) ∧ flq Tryz.prog 26 7 = some (23, 9, 2) ∧ plq Tryz.prog 26 = some [(0, 1), (1, 1), (2, 1), (3, 2), (5, 1), (6, 1), (7, 2), (9, 2)] := by decide +kernel
theorem tz26 : zeq Tryz.prog 26 = some [.p (.i .i64 0), .p (.i .i64 0), .p (.i .i64 0), .p (.i .i64 0), .p (.i .i64 0), .p (.i .i64 0), .nilS, .p (.i .i64 0), .p (.i .i64 0), .p (.i .i64 0), .p (.i .i64 0)] := by rfl
def ty26 := (And.intro ta26 tz26)
theorem ta27 : szq Tryz.prog 27 = some 1 ∧ byq Tryz.prog 27 = some 24 ∧ agq Tryz.prog 27 = some false ∧ elq Tryz.prog 27 = some 3 ∧ arq Tryz.prog 27 = none := by decide +kernel
theorem tz27 : zeq Tryz.prog 27 = some [.nilS] := by rfl
def ty27 := (And.intro ta27 tz27)
theorem ta29 : szq Tryz.prog 29 = some 2 ∧ byq Tryz.prog 29 = some 40 ∧ agq Tryz.prog 29 = some true ∧ arq Tryz.prog 29 = none ∧ flq Tryz.prog 29 0 = some (9, 0, 1) ∧ flq Tryz.prog 29 1 = some (27, 1, 1) ∧ plq Tryz.prog 29 = some [(0, 1), (1, 1)] := by decide +kernel
theorem tz29 : zeq Tryz.prog 29 = some [.p (.s ByteArray.empty), .nilS] := by rfl
def ty29 := (And.intro ta29 tz29)
theorem ta33 : szq Tryz.prog 33 = some 1 ∧ byq Tryz.prog 33 = some 8 ∧ agq Tryz.prog 33 = some false ∧ arq Tryz.prog 33 = none := by decide +kernel
theorem tz33 : zeq Tryz.prog 33 = some [.p (.i .i64 0)] := by rfl
theorem tu33 : Tryz.prog.underlying 33 = some (.int .i64) := by rfl
def ty33 := (And.intro ta33 (And.intro tz33 tu33))
theorem ta50 : szq Tryz.prog 50 = some 1 ∧ byq Tryz.prog 50 = some 24 ∧ agq Tryz.prog 50 = some false ∧ elq Tryz.prog 50 = some 27 ∧ arq Tryz.prog 50 = none := by decide +kernel
theorem tz50 : zeq Tryz.prog 50 = some [.nilS] := by rfl
def ty50 := (And.intro ta50 tz50)
theorem ta57 : szq Tryz.prog 57 = some 2 ∧ byq Tryz.prog 57 = some 32 ∧ agq Tryz.prog 57 = some true ∧ arq Tryz.prog 57 = none ∧ flq Tryz.prog 57 0 = some (3, 0, 1) ∧ flq Tryz.prog 57 1 = some (27, 1, 1) ∧ plq Tryz.prog 57 = some [(0, 1), (1, 1)] := by decide +kernel
theorem tz57 : zeq Tryz.prog 57 = some [.p (.i .i64 0), .nilS] := by rfl
def ty57 := (And.intro ta57 tz57)
theorem ta68 : szq Tryz.prog 68 = some 1 ∧ byq Tryz.prog 68 = some 24 ∧ agq Tryz.prog 68 = some false ∧ elq Tryz.prog 68 = some 77 ∧ arq Tryz.prog 68 = none := by decide +kernel
theorem tz68 : zeq Tryz.prog 68 = some [.nilS] := by rfl
def ty68 := (And.intro ta68 tz68)
theorem ta74 : szq Tryz.prog 74 = some 4 ∧ byq Tryz.prog 74 = some 48 ∧ agq Tryz.prog 74 = some true ∧ arq Tryz.prog 74 = none ∧ flq Tryz.prog 74 0 = some (3, 0, 1) ∧ flq Tryz.prog 74 1 = some (3, 1, 1) ∧ flq Tryz.prog 74 2 = some (3, 2, 1) ∧ flq Tryz.prog 74 3 = some (27, 3, 1) ∧ plq Tryz.prog 74 = some [(0, 1), (1, 1), (2, 1), (3, 1)] := by decide +kernel
theorem tz74 : zeq Tryz.prog 74 = some [.p (.i .i64 0), .p (.i .i64 0), .p (.i .i64 0), .nilS] := by rfl
def ty74 := (And.intro ta74 tz74)
theorem ta77 : szq Tryz.prog 77 = some 2 ∧ byq Tryz.prog 77 = some 16 ∧ agq Tryz.prog 77 = some true ∧ arq Tryz.prog 77 = none ∧ flq Tryz.prog 77 0 = some (3, 0, 1) ∧ flq Tryz.prog 77 1 = some (3, 1, 1) ∧ plq Tryz.prog 77 = some [(0, 1), (1, 1)] ∧ cmpq Tryz.prog 77 = some [1, 1] := by decide +kernel
theorem tz77 : zeq Tryz.prog 77 = some [.p (.i .i64 0), .p (.i .i64 0)] := by rfl
def ty77 := (And.intro ta77 tz77)
theorem ta82 : szq Tryz.prog 82 = some 1 ∧ byq Tryz.prog 82 = some 24 ∧ agq Tryz.prog 82 = some false ∧ elq Tryz.prog 82 = some 23 ∧ arq Tryz.prog 82 = none := by decide +kernel
theorem tz82 : zeq Tryz.prog 82 = some [.nilS] := by rfl
def ty82 := (And.intro ta82 tz82)
theorem ta84 : szq Tryz.prog 84 = some 12 ∧ byq Tryz.prog 84 = some 128 ∧ agq Tryz.prog 84 = some true ∧ arq Tryz.prog 84 = none ∧ flq Tryz.prog 84 0 = some (26, 0, 11) ∧ flq Tryz.prog 84 1 = some (82, 11, 1) ∧ plq Tryz.prog 84 = some [(0, 11), (11, 1)] := by decide +kernel
theorem tz84 : zeq Tryz.prog 84 = some [.p (.i .i64 0), .p (.i .i64 0), .p (.i .i64 0), .p (.i .i64 0), .p (.i .i64 0), .p (.i .i64 0), .nilS, .p (.i .i64 0), .p (.i .i64 0), .p (.i .i64 0), .p (.i .i64 0), .nilS] := by rfl
def ty84 := (And.intro ta84 tz84)
theorem ta85 : szq Tryz.prog 85 = some 1 ∧ byq Tryz.prog 85 = some 24 ∧ agq Tryz.prog 85 = some false ∧ elq Tryz.prog 85 = some 89 ∧ arq Tryz.prog 85 = none := by decide +kernel
theorem tz85 : zeq Tryz.prog 85 = some [.nilS] := by rfl
def ty85 := (And.intro ta85 tz85)
theorem ta89 : szq Tryz.prog 89 = some 3 ∧ byq Tryz.prog 89 = some 24 ∧ agq Tryz.prog 89 = some true ∧ arq Tryz.prog 89 = none ∧ flq Tryz.prog 89 0 = some (3, 0, 1) ∧ flq Tryz.prog 89 1 = some (3, 1, 1) ∧ flq Tryz.prog 89 2 = some (3, 2, 1) ∧ plq Tryz.prog 89 = some [(0, 1), (1, 1), (2, 1)] ∧ cmpq Tryz.prog 89 = some [1, 1, 1] := by decide +kernel
theorem tz89 : zeq Tryz.prog 89 = some [.p (.i .i64 0), .p (.i .i64 0), .p (.i .i64 0)] := by rfl
def ty89 := (And.intro ta89 tz89)
theorem ta90 : szq Tryz.prog 90 = some 1 ∧ byq Tryz.prog 90 = some 8 ∧ agq Tryz.prog 90 = some false ∧ arq Tryz.prog 90 = none := by decide +kernel
theorem tz90 : zeq Tryz.prog 90 = some [.p .nilFn] := by rfl
def ty90 := (And.intro ta90 tz90)
theorem ta93 : szq Tryz.prog 93 = some 13 ∧ byq Tryz.prog 93 = some 152 ∧ agq Tryz.prog 93 = some true ∧ arq Tryz.prog 93 = none ∧ flq Tryz.prog 93 0 = some (84, 0, 12) ∧ flq Tryz.prog 93 1 = some (27, 12, 1) ∧ plq Tryz.prog 93 = some [(0, 12), (12, 1)] := by decide +kernel
theorem tz93 : zeq Tryz.prog 93 = some [.p (.i .i64 0), .p (.i .i64 0), .p (.i .i64 0), .p (.i .i64 0), .p (.i .i64 0), .p (.i .i64 0), .nilS, .p (.i .i64 0), .p (.i .i64 0), .p (.i .i64 0), .p (.i .i64 0), .nilS, .nilS] := by rfl
def ty93 := (And.intro ta93 tz93)
theorem ta100 : szq Tryz.prog 100 = some 2 ∧ byq Tryz.prog 100 = some 16 ∧ agq Tryz.prog 100 = some true ∧ arq Tryz.prog 100 = some (2, 3) ∧ plq Tryz.prog 100 = some [(0, 1), (1, 1)] ∧ cmpq Tryz.prog 100 = some [1, 1] := by decide +kernel
theorem tz100 : zeq Tryz.prog 100 = some [.p (.i .i64 0), .p (.i .i64 0)] := by rfl
def ty100 := (And.intro ta100 tz100)
theorem ta112 : szq Tryz.prog 112 = some 1 ∧ byq Tryz.prog 112 = some 24 ∧ agq Tryz.prog 112 = some false ∧ elq Tryz.prog 112 = some 4 ∧ arq Tryz.prog 112 = none := by decide +kernel
theorem tz112 : zeq Tryz.prog 112 = some [.nilS] := by rfl
def ty112 := (And.intro ta112 tz112)
theorem ta119 : szq Tryz.prog 119 = some 3 ∧ byq Tryz.prog 119 = some 24 ∧ agq Tryz.prog 119 = some true ∧ arq Tryz.prog 119 = none ∧ flq Tryz.prog 119 0 = some (23, 0, 2) ∧ flq Tryz.prog 119 1 = some (3, 2, 1) ∧ plq Tryz.prog 119 = some [(0, 2), (2, 1)] ∧ cmpq Tryz.prog 119 = some [1, 1, 1] := by decide +kernel
theorem tz119 : zeq Tryz.prog 119 = some [.p (.i .i64 0), .p (.i .i64 0), .p (.i .i64 0)] := by rfl
def ty119 := (And.intro ta119 tz119)
theorem ta120 : szq Tryz.prog 120 = some 12 ∧ byq Tryz.prog 120 = some 96 ∧ agq Tryz.prog 120 = some true ∧ arq Tryz.prog 120 = some (4, 119) ∧ plq Tryz.prog 120 = some [(0, 3), (3, 3), (6, 3), (9, 3)] := by decide +kernel
theorem tz120 : zeq Tryz.prog 120 = some [.p (.i .i64 0), .p (.i .i64 0), .p (.i .i64 0), .p (.i .i64 0), .p (.i .i64 0), .p (.i .i64 0), .p (.i .i64 0), .p (.i .i64 0), .p (.i .i64 0), .p (.i .i64 0), .p (.i .i64 0), .p (.i .i64 0)] := by rfl
def ty120 := (And.intro ta120 tz120)
theorem ta123 : szq Tryz.prog 123 = some 5 ∧ byq Tryz.prog 123 = some 40 ∧ agq Tryz.prog 123 = some true ∧ arq Tryz.prog 123 = none ∧ flq Tryz.prog 123 0 = some (3, 0, 1) ∧ flq Tryz.prog 123 1 = some (3, 1, 1) ∧ flq Tryz.prog 123 2 = some (3, 2, 1) ∧ flq Tryz.prog 123 3 = some (23, 3, 2) ∧ plq Tryz.prog 123 = some [(0, 1), (1, 1), (2, 1), (3, 2)] ∧ cmpq Tryz.prog 123 = some [1, 1, 1, 1, 1] := by decide +kernel
theorem tz123 : zeq Tryz.prog 123 = some [.p (.i .i64 0), .p (.i .i64 0), .p (.i .i64 0), .p (.i .i64 0), .p (.i .i64 0)] := by rfl
def ty123 := (And.intro ta123 tz123)
theorem ta147 : szq Tryz.prog 147 = some 1 ∧ byq Tryz.prog 147 = some 24 ∧ agq Tryz.prog 147 = some false ∧ elq Tryz.prog 147 = some 33 ∧ arq Tryz.prog 147 = none := by decide +kernel
theorem tz147 : zeq Tryz.prog 147 = some [.nilS] := by rfl
def ty147 := (And.intro ta147 tz147)
theorem ta157 : szq Tryz.prog 157 = some 2 ∧ byq Tryz.prog 157 = some 16 ∧ agq Tryz.prog 157 = some true ∧ arq Tryz.prog 157 = none ∧ flq Tryz.prog 157 0 = some (3, 0, 1) ∧ flq Tryz.prog 157 1 = some (3, 1, 1) ∧ plq Tryz.prog 157 = some [(0, 1), (1, 1)] ∧ cmpq Tryz.prog 157 = some [1, 1] := by decide +kernel
theorem tz157 : zeq Tryz.prog 157 = some [.p (.i .i64 0), .p (.i .i64 0)] := by rfl
def ty157 := (And.intro ta157 tz157)
def q3 := (And.intro ty26 (And.intro ty29 (And.intro ty3 (And.intro ty33 (And.intro ty23 (And.intro ty24 (And.intro ty9 (And.intro ty27 ty123))))))))
def q4 := (And.intro ty26 (And.intro ty29 (And.intro ty57 (And.intro ty3 (And.intro ty50 (And.intro ty33 (And.intro ty23 (And.intro ty24 (And.intro ty9 (And.intro ty27 ty123))))))))))
def q5 := (And.intro ty29 (And.intro ty26 (And.intro ty24 (And.intro ty57 (And.intro ty27 (And.intro ty74 (And.intro ty33 (And.intro ty3 (And.intro ty68 (And.intro ty9 (And.intro ty23 (And.intro ty123 ty77))))))))))))
def q6 := (And.intro ty26 (And.intro ty29 (And.intro ty24 (And.intro ty3 (And.intro ty27 (And.intro ty9 (And.intro ty23 ty123)))))))
def q7 := (And.intro ty26 (And.intro ty3 (And.intro ty27 (And.intro ty23 (And.intro ty24 ty123)))))
def q9 := (And.intro ty26 (And.intro ty24 (And.intro ty3 (And.intro ty23 ty123))))
def q11 := (And.intro ty26 (And.intro ty29 (And.intro ty93 (And.intro ty50 (And.intro ty33 (And.intro ty3 (And.intro ty84 (And.intro ty24 (And.intro ty89 (And.intro ty100 (And.intro ty27 (And.intro ty23 (And.intro ty9 (And.intro ty82 ty123))))))))))))))
def q13 := (And.intro ty26 (And.intro ty3 (And.intro ty23 (And.intro ty24 ty123))))
def q17 := (And.intro ty26 (And.intro ty27 (And.intro ty3 (And.intro ty23 (And.intro ty24 ty123)))))
def q18 := (And.intro ty26 (And.intro ty29 (And.intro ty50 (And.intro ty27 (And.intro ty3 (And.intro ty24 (And.intro ty23 (And.intro ty9 ty123))))))))
def q20 := (And.intro ty50 (And.intro ty3 ty27))
def q21 := (And.intro ty26 (And.intro ty93 (And.intro ty33 (And.intro ty3 (And.intro ty23 (And.intro ty24 (And.intro ty84 (And.intro ty27 (And.intro ty123 ty82)))))))))
def q22 := (And.intro ty26 (And.intro ty50 (And.intro ty3 (And.intro ty33 (And.intro ty93 (And.intro ty84 (And.intro ty24 (And.intro ty27 (And.intro ty89 (And.intro ty100 (And.intro ty23 (And.intro ty82 ty123))))))))))))
def q23 := (And.intro ty50 (And.intro ty3 ty27))
def q24 := (And.intro ty26 (And.intro ty57 (And.intro ty93 (And.intro ty33 (And.intro ty27 (And.intro ty112 (And.intro ty4 (And.intro ty84 (And.intro ty24 (And.intro ty3 (And.intro ty23 (And.intro ty82 ty123))))))))))))
def q25 := (And.intro ty57 (And.intro ty3 ty27))
def q26 := (And.intro ty26 (And.intro ty50 (And.intro ty24 (And.intro ty3 (And.intro ty27 (And.intro ty23 ty123))))))
def q27 := (And.intro ty26 (And.intro ty57 (And.intro ty27 (And.intro ty112 (And.intro ty4 (And.intro ty24 (And.intro ty3 (And.intro ty23 ty123))))))))
def q37 := (And.intro ty26 (And.intro ty3 (And.intro ty27 (And.intro ty23 (And.intro ty24 ty123)))))
def q38 := (And.intro ty26 (And.intro ty29 (And.intro ty84 (And.intro ty33 (And.intro ty3 (And.intro ty27 (And.intro ty89 (And.intro ty85 (And.intro ty23 (And.intro ty24 (And.intro ty9 (And.intro ty82 ty123))))))))))))
def q39 := (And.intro ty84 (And.intro ty89 (And.intro ty23 (And.intro ty3 (And.intro ty26 (And.intro ty82 ty24))))))
def q40 := (And.intro ty27 ty3)
def q41 := (And.intro ty26 (And.intro ty93 (And.intro ty33 (And.intro ty50 (And.intro ty27 (And.intro ty3 (And.intro ty23 (And.intro ty24 (And.intro ty84 (And.intro ty123 ty82))))))))))
def q42 := (And.intro ty93 (And.intro ty84 (And.intro ty27 (And.intro ty26 (And.intro ty82 (And.intro ty3 (And.intro ty23 ty24)))))))
def q44 := (And.intro ty27 ty3)
def q46 := (And.intro ty26 (And.intro ty3 (And.intro ty23 (And.intro ty24 ty123))))
def q47 := (And.intro ty27 ty3)
def q48 := (And.intro ty26 (And.intro ty29 (And.intro ty9 (And.intro ty27 (And.intro ty24 (And.intro ty3 (And.intro ty23 ty123)))))))
def q49 := (And.intro ty26 (And.intro ty3 (And.intro ty23 (And.intro ty24 ty123))))
def q51 := (And.intro ty26 (And.intro ty24 (And.intro ty3 (And.intro ty50 (And.intro ty27 (And.intro ty23 ty123))))))
def q52 := (And.intro ty26 (And.intro ty27 (And.intro ty3 (And.intro ty23 (And.intro ty24 ty123)))))
def q53 := (And.intro ty27 ty3)
def q54 := (And.intro ty26 (And.intro ty93 (And.intro ty147 (And.intro ty33 (And.intro ty3 (And.intro ty27 (And.intro ty23 (And.intro ty24 (And.intro ty84 (And.intro ty123 ty82))))))))))
def q56 := (And.intro ty27 (And.intro ty93 (And.intro ty3 (And.intro ty84 (And.intro ty26 ty82)))))
def q58 := (And.intro ty93 (And.intro ty112 (And.intro ty27 (And.intro ty84 (And.intro ty26 (And.intro ty24 (And.intro ty3 (And.intro ty4 (And.intro ty100 (And.intro ty82 (And.intro ty23 ty123)))))))))))
def q60 := (And.intro ty93 (And.intro ty3 (And.intro ty112 (And.intro ty27 (And.intro ty84 (And.intro ty4 (And.intro ty26 ty82)))))))
def q61 := (And.intro ty26 (And.intro ty27 (And.intro ty112 (And.intro ty3 (And.intro ty24 (And.intro ty4 (And.intro ty23 ty123)))))))
def q62 := (And.intro ty112 (And.intro ty3 ty4))
def q63 := (And.intro ty27 ty3)
def q64 := (And.intro ty84 (And.intro ty89 (And.intro ty120 (And.intro ty26 (And.intro ty24 (And.intro ty3 (And.intro ty123 (And.intro ty23 (And.intro ty119 ty82)))))))))
def q65 := (And.intro ty147 (And.intro ty3 ty33))
def q73 := (And.intro ty26 (And.intro ty84 (And.intro ty23 (And.intro ty24 (And.intro ty3 (And.intro ty123 ty82))))))
def q75 := (And.intro ty84 (And.intro ty89 (And.intro ty23 (And.intro ty82 (And.intro ty3 (And.intro ty26 (And.intro ty24 ty123)))))))
def q77 := (And.intro ty26 (And.intro ty29 (And.intro ty33 (And.intro ty9 (And.intro ty27 (And.intro ty24 (And.intro ty3 (And.intro ty147 (And.intro ty23 ty123)))))))))
def q78 := (And.intro ty84 (And.intro ty89 (And.intro ty23 (And.intro ty26 (And.intro ty3 (And.intro ty82 (And.intro ty24 ty123)))))))
def q79 := (And.intro ty89 ty3)
def q80 := (And.intro ty93 (And.intro ty90 (And.intro ty84 (And.intro ty26 (And.intro ty24 (And.intro ty3 (And.intro ty50 (And.intro ty27 (And.intro ty89 (And.intro ty100 (And.intro ty82 (And.intro ty23 ty123))))))))))))
def q81 := (And.intro ty93 (And.intro ty27 (And.intro ty3 (And.intro ty89 (And.intro ty84 (And.intro ty120 (And.intro ty100 (And.intro ty26 (And.intro ty82 (And.intro ty119 (And.intro ty23 ty24)))))))))))
def q83 := (And.intro ty120 (And.intro ty119 (And.intro ty23 ty3)))
def q88 := (And.intro ty26 (And.intro ty3 (And.intro ty23 (And.intro ty24 ty123))))
def q89 := (And.intro ty26 (And.intro ty23 (And.intro ty24 (And.intro ty123 ty3))))
def q90 := (And.intro ty26 (And.intro ty3 (And.intro ty157 (And.intro ty23 (And.intro ty82 (And.intro ty24 (And.intro ty147 (And.intro ty33 ty123))))))))
def q91 := (And.intro ty157 ty3)
def q92 := (And.intro ty50 (And.intro ty3 ty27))
def q93 := (And.intro ty112 (And.intro ty3 ty4))
def q95 := (And.intro ty84 (And.intro ty89 (And.intro ty3 (And.intro ty26 (And.intro ty24 (And.intro ty123 (And.intro ty82 ty23)))))))
def q98 := (And.intro ty84 (And.intro ty89 (And.intro ty3 (And.intro ty26 (And.intro ty82 (And.intro ty23 (And.intro ty24 ty123)))))))
def q101 := (And.intro ty84 (And.intro ty89 (And.intro ty3 (And.intro ty26 (And.intro ty82 (And.intro ty23 (And.intro ty24 ty123)))))))
def q103 := (And.intro ty27 ty3)
def q104 := (And.intro ty123 (And.intro ty3 ty23))
def q105 := (And.intro ty26 (And.intro ty23 (And.intro ty3 (And.intro ty24 ty123))))
def q106 := (And.intro ty26 (And.intro ty3 (And.intro ty23 (And.intro ty24 ty123))))
def q107 := (And.intro ty157 (And.intro ty23 ty3))
def q113 := (And.intro ty23 ty3)
def q114 := (And.intro ty27 ty3)
def q117 := (And.intro ty82 (And.intro ty3 ty23))
end Go.Vm
