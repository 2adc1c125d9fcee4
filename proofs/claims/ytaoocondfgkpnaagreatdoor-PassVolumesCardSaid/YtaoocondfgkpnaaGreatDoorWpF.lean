import Derived.Test.YtaoocondfgkpnaaGreatDoorVmBC
import Derived.Test.YtaoocondfgkpnaaGreatDoorProg
set_option linter.all false
/- What the program's types are. Printed by VmFacts.lean. -/
namespace Go.Vm
open Go.Proofs
set_option maxRecDepth 20000
set_option maxHeartbeats 8000000
/-- The package's variables: heat, stress, friction, loss, thickness. -/
def Γ0 : Nat → Option (List V)
  | 0 => some [.i .i64 0, .i .i64 20000]
  | 1 => some [.i .i64 1, .i .i64 100]
  | 2 => some [.i .i64 0, .i .i64 100]
  | 3 => some [.i .i64 0, .i .i64 1000]
  | 4 => some [.i .i64 1, .i .i64 1000]
  | _ => none
abbrev Sp0 : FuncId → List V → R → Prop := Spec Tryz.prog Γ0
abbrev nn (n : Int) : V := .i .i64 n
theorem mixed : Tryz.prog.follows .mixedOrders = true := by decide +kernel
theorem wr64 {n : Int} (h1 : -9223372036854775808 ≤ n) (h2 : n ≤ 9223372036854775807) : IntKind.wrap .i64 n = n := by
  simp [IntKind.wrap, IntKind.signed, IntKind.bits] <;> (try split) <;> omega
theorem mapnn {xs : List Int} : (∀ y, y ∈ List.map nn xs → y.cells.length = 1) = True := by
  simp only [List.mem_map, eq_iff_iff, iff_true]; rintro y ⟨a, _, rfl⟩; rfl
abbrev p2 (p : Int × Int) : V := .agg [nn p.1, nn p.2]
theorem mapp2 {xs : List (Int × Int)} : (∀ y, y ∈ List.map p2 xs → y.cells.length = 2) = True := by
  simp only [List.mem_map, eq_iff_iff, iff_true]; rintro y ⟨a, _, rfl⟩; rfl
theorem maxB : maxBytes = 1099511627776 := rfl
theorem mapDrop {α : Type} {f : α → V} {xs : List α} {n : Nat} : (xs.map f).drop n = (xs.drop n).map f := by rw [List.map_drop]
theorem mapTake {α : Type} {f : α → V} {xs : List α} {n : Nat} : (xs.map f).take n = (xs.take n).map f := by rw [List.map_take]
theorem mapApp {α : Type} {f : α → V} {xs ys : List α} : xs.map f ++ ys.map f = (xs ++ ys).map f := by rw [List.map_append]
theorem mapSnoc {xs : List Int} {y : Int} : xs.map nn ++ [V.i .i64 y] = (xs ++ [y]).map nn := by rw [List.map_append]; rfl
theorem mapSnoc2 {xs : List (Int × Int)} {y z : Int} : xs.map p2 ++ [V.agg [V.i .i64 y, V.i .i64 z]] = (xs ++ [(y, z)]).map p2 := by rw [List.map_append]; rfl
theorem mapRep {n : Nat} {a : Int} : List.replicate n (V.i .i64 a) = (List.replicate n a).map nn := by rw [List.map_replicate]
theorem mapSet {xs : List Int} {n : Nat} {a : Int} : (xs.map nn).set n (V.i .i64 a) = (xs.set n a).map nn := by rw [List.map_set]
theorem isNil_nn {σ : VS} {x : Int} {xs : List Int} : isNil σ (.p (.sl ((x :: xs).map nn))) = some false := rfl
theorem cast0' : ((0 : Nat) : Int) = 0 := rfl
theorem castPred {i : Nat} : ((i : Int) - 1).toNat = i - 1 := by omega
theorem castSucc {i : Nat} : ((i : Int) + 1).toNat = i + 1 := by omega
theorem toNat0 : Int.toNat 0 = 0 := rfl
theorem evg0 {σ : VS} : σ.ev Γ0 (.global 0) = .p (.ref [.i .i64 0, .i .i64 20000]) := Eq.trans rfl rfl
theorem evg1 {σ : VS} : σ.ev Γ0 (.global 1) = .p (.ref [.i .i64 1, .i .i64 100]) := Eq.trans rfl rfl
theorem evg2 {σ : VS} : σ.ev Γ0 (.global 2) = .p (.ref [.i .i64 0, .i .i64 100]) := Eq.trans rfl rfl
theorem evg3 {σ : VS} : σ.ev Γ0 (.global 3) = .p (.ref [.i .i64 0, .i .i64 1000]) := Eq.trans rfl rfl
theorem evg4 {σ : VS} : σ.ev Γ0 (.global 4) = .p (.ref [.i .i64 1, .i .i64 1000]) := Eq.trans rfl rfl
theorem winM_0 : winM Γ0 = false := Eq.trans rfl rfl
def vp := And.intro @winM_0 <| And.intro (@Option.map_none.{0, 0}) <| And.intro @evg0 <| And.intro @evg1 <| And.intro @evg2 <| And.intro @evg3 <| And.intro @evg4 <| And.intro @toNat0 <| And.intro @castPred <| And.intro @castSucc <| And.intro @mapnn (And.intro @mapp2 (And.intro @maxB (And.intro @mapDrop (And.intro @mapTake (And.intro @mapApp (And.intro @mapSnoc (And.intro @mapSnoc2 (And.intro @mapRep (And.intro @mapSet (And.intro @isNil_nn @cast0'))))))))))
theorem ta3 : szq Tryz.prog 3 = some 1 ∧ byq Tryz.prog 3 = some 8 ∧ agq Tryz.prog 3 = some false ∧ arq Tryz.prog 3 = none := by decide +kernel
theorem tz3 : zeq Tryz.prog 3 = some [.p (.i .i64 0)] := by rfl
theorem tu3 : Tryz.prog.underlying 3 = some (.int .i64) := by rfl
def ty3 := (And.intro ta3 (And.intro tz3 tu3))
theorem ta5 : szq Tryz.prog 5 = some 1 ∧ byq Tryz.prog 5 = some 1 ∧ agq Tryz.prog 5 = some false ∧ arq Tryz.prog 5 = none := by decide +kernel
theorem tz5 : zeq Tryz.prog 5 = some [.p (.i .u8 0)] := by rfl
theorem tu5 : Tryz.prog.underlying 5 = some (.int .u8) := by rfl
def ty5 := (And.intro ta5 (And.intro tz5 tu5))
theorem ta9 : szq Tryz.prog 9 = some 1 ∧ byq Tryz.prog 9 = some 16 ∧ agq Tryz.prog 9 = some false ∧ arq Tryz.prog 9 = none ∧ isStr Tryz.prog 9 = true := by decide +kernel
theorem tz9 : zeq Tryz.prog 9 = some [.p (.s ByteArray.empty)] := by rfl
theorem tu9 : Tryz.prog.underlying 9 = some .string := by rfl
def ty9 := (And.intro ta9 (And.intro tz9 tu9))
theorem ta23 : szq Tryz.prog 23 = some 2 ∧ byq Tryz.prog 23 = some 16 ∧ agq Tryz.prog 23 = some true ∧ arq Tryz.prog 23 = none ∧ flq Tryz.prog 23 0 = some (3, 0, 1) ∧ flq Tryz.prog 23 1 = some (3, 1, 1) ∧ plq Tryz.prog 23 = some [(0, 1), (1, 1)] ∧ cmpq Tryz.prog 23 = some [1, 1] := by decide +kernel
theorem tz23 : zeq Tryz.prog 23 = some [.p (.i .i64 0), .p (.i .i64 0)] := by rfl
def ty23 := (And.intro ta23 tz23)
theorem ta24 : szq Tryz.prog 24 = some 1 ∧ byq Tryz.prog 24 = some 24 ∧ agq Tryz.prog 24 = some false ∧ elq Tryz.prog 24 = some 118 ∧ arq Tryz.prog 24 = none := by decide +kernel
theorem tz24 : zeq Tryz.prog 24 = some [.nilS] := by rfl
def ty24 := (And.intro ta24 tz24)
theorem ta26 : szq Tryz.prog 26 = some 11 ∧ byq Tryz.prog 26 = some 104 ∧ agq Tryz.prog 26 = some true ∧ arq Tryz.prog 26 = none ∧ flq Tryz.prog 26 0 = some (3, 0, 1) ∧ flq Tryz.prog 26 1 = some (3, 1, 1) ∧ flq Tryz.prog 26 2 = some (3, 2, 1) ∧ flq Tryz.prog 26 3 = some (23, 3, 2) ∧ flq Tryz.prog 26 4 = some (3, 5, 1) ∧ flq Tryz.prog 26 5 = some (24, 6, 1) ∧ flq Tryz.prog 26 6 = some (23, 7, 2) ∧ flq Tryz.prog 26 7 = some (23, 9, 2) ∧ plq Tryz.prog 26 = some [(0, 1), (1, 1), (2, 1), (3, 2), (5, 1), (6, 1), (7, 2), (9, 2)] := by decide +kernel
theorem tz26 : zeq Tryz.prog 26 = some [.p (.i .i64 0), .p (.i .i64 0), .p (.i .i64 0), .p (.i .i64 0), .p (.i .i64 0), .p (.i .i64 0), .nilS, .p (.i .i64 0), .p (.i .i64 0), .p (.i .i64 0), .p (.i .i64 0)] := by rfl
def ty26 := (And.intro ta26 tz26)
theorem ta27 : szq Tryz.prog 27 = some 1 ∧ byq Tryz.prog 27 = some 24 ∧ agq Tryz.prog 27 = some false ∧ elq Tryz.prog 27 = some 3 ∧ arq Tryz.prog 27 = none := by decide +kernel
theorem tz27 : zeq Tryz.prog 27 = some [.nilS] := by rfl
def ty27 := (And.intro ta27 tz27)
theorem ta29 : szq Tryz.prog 29 = some 2 ∧ byq Tryz.prog 29 = some 40 ∧ agq Tryz.prog 29 = some true ∧ arq Tryz.prog 29 = none ∧ flq Tryz.prog 29 0 = some (9, 0, 1) ∧ flq Tryz.prog 29 1 = some (27, 1, 1) ∧ plq Tryz.prog 29 = some [(0, 1), (1, 1)] := by decide +kernel
theorem tz29 : zeq Tryz.prog 29 = some [.p (.s ByteArray.empty), .nilS] := by rfl
def ty29 := (And.intro ta29 tz29)
theorem ta34 : szq Tryz.prog 34 = some 1 ∧ byq Tryz.prog 34 = some 24 ∧ agq Tryz.prog 34 = some false ∧ elq Tryz.prog 34 = some 48 ∧ arq Tryz.prog 34 = none := by decide +kernel
theorem tz34 : zeq Tryz.prog 34 = some [.nilS] := by rfl
def ty34 := (And.intro ta34 tz34)
theorem ta35 : szq Tryz.prog 35 = some 1 ∧ byq Tryz.prog 35 = some 8 ∧ agq Tryz.prog 35 = some false ∧ arq Tryz.prog 35 = none := by decide +kernel
theorem tz35 : zeq Tryz.prog 35 = some [.p (.i .i64 0)] := by rfl
theorem tu35 : Tryz.prog.underlying 35 = some (.int .i64) := by rfl
def ty35 := (And.intro ta35 (And.intro tz35 tu35))
theorem ta42 : szq Tryz.prog 42 = some 2 ∧ byq Tryz.prog 42 = some 32 ∧ agq Tryz.prog 42 = some true ∧ arq Tryz.prog 42 = none ∧ flq Tryz.prog 42 0 = some (3, 0, 1) ∧ flq Tryz.prog 42 1 = some (27, 1, 1) ∧ plq Tryz.prog 42 = some [(0, 1), (1, 1)] := by decide +kernel
theorem tz42 : zeq Tryz.prog 42 = some [.p (.i .i64 0), .nilS] := by rfl
def ty42 := (And.intro ta42 tz42)
theorem ta44 : szq Tryz.prog 44 = some 4 ∧ byq Tryz.prog 44 = some 64 ∧ agq Tryz.prog 44 = some true ∧ arq Tryz.prog 44 = none ∧ flq Tryz.prog 44 0 = some (42, 0, 2) ∧ flq Tryz.prog 44 1 = some (42, 2, 2) ∧ plq Tryz.prog 44 = some [(0, 2), (2, 2)] := by decide +kernel
theorem tz44 : zeq Tryz.prog 44 = some [.p (.i .i64 0), .nilS, .p (.i .i64 0), .nilS] := by rfl
def ty44 := (And.intro ta44 tz44)
theorem ta48 : szq Tryz.prog 48 = some 2 ∧ byq Tryz.prog 48 = some 16 ∧ agq Tryz.prog 48 = some true ∧ arq Tryz.prog 48 = none ∧ flq Tryz.prog 48 0 = some (3, 0, 1) ∧ flq Tryz.prog 48 1 = some (3, 1, 1) ∧ plq Tryz.prog 48 = some [(0, 1), (1, 1)] ∧ cmpq Tryz.prog 48 = some [1, 1] := by decide +kernel
theorem tz48 : zeq Tryz.prog 48 = some [.p (.i .i64 0), .p (.i .i64 0)] := by rfl
def ty48 := (And.intro ta48 tz48)
theorem ta53 : szq Tryz.prog 53 = some 1 ∧ byq Tryz.prog 53 = some 24 ∧ agq Tryz.prog 53 = some false ∧ elq Tryz.prog 53 = some 23 ∧ arq Tryz.prog 53 = none := by decide +kernel
theorem tz53 : zeq Tryz.prog 53 = some [.nilS] := by rfl
def ty53 := (And.intro ta53 tz53)
theorem ta56 : szq Tryz.prog 56 = some 1 ∧ byq Tryz.prog 56 = some 24 ∧ agq Tryz.prog 56 = some false ∧ elq Tryz.prog 56 = some 107 ∧ arq Tryz.prog 56 = none := by decide +kernel
theorem tz56 : zeq Tryz.prog 56 = some [.nilS] := by rfl
def ty56 := (And.intro ta56 tz56)
theorem ta70 : szq Tryz.prog 70 = some 2 ∧ byq Tryz.prog 70 = some 32 ∧ agq Tryz.prog 70 = some true ∧ arq Tryz.prog 70 = none ∧ flq Tryz.prog 70 0 = some (3, 0, 1) ∧ flq Tryz.prog 70 1 = some (27, 1, 1) ∧ plq Tryz.prog 70 = some [(0, 1), (1, 1)] := by decide +kernel
theorem tz70 : zeq Tryz.prog 70 = some [.p (.i .i64 0), .nilS] := by rfl
def ty70 := (And.intro ta70 tz70)
theorem ta76 : szq Tryz.prog 76 = some 4 ∧ byq Tryz.prog 76 = some 48 ∧ agq Tryz.prog 76 = some true ∧ arq Tryz.prog 76 = none ∧ flq Tryz.prog 76 0 = some (3, 0, 1) ∧ flq Tryz.prog 76 1 = some (3, 1, 1) ∧ flq Tryz.prog 76 2 = some (3, 2, 1) ∧ flq Tryz.prog 76 3 = some (27, 3, 1) ∧ plq Tryz.prog 76 = some [(0, 1), (1, 1), (2, 1), (3, 1)] := by decide +kernel
theorem tz76 : zeq Tryz.prog 76 = some [.p (.i .i64 0), .p (.i .i64 0), .p (.i .i64 0), .nilS] := by rfl
def ty76 := (And.intro ta76 tz76)
theorem ta84 : szq Tryz.prog 84 = some 12 ∧ byq Tryz.prog 84 = some 128 ∧ agq Tryz.prog 84 = some true ∧ arq Tryz.prog 84 = none ∧ flq Tryz.prog 84 0 = some (26, 0, 11) ∧ flq Tryz.prog 84 1 = some (53, 11, 1) ∧ plq Tryz.prog 84 = some [(0, 11), (11, 1)] := by decide +kernel
theorem tz84 : zeq Tryz.prog 84 = some [.p (.i .i64 0), .p (.i .i64 0), .p (.i .i64 0), .p (.i .i64 0), .p (.i .i64 0), .p (.i .i64 0), .nilS, .p (.i .i64 0), .p (.i .i64 0), .p (.i .i64 0), .p (.i .i64 0), .nilS] := by rfl
def ty84 := (And.intro ta84 tz84)
theorem ta85 : szq Tryz.prog 85 = some 1 ∧ byq Tryz.prog 85 = some 24 ∧ agq Tryz.prog 85 = some false ∧ elq Tryz.prog 85 = some 92 ∧ arq Tryz.prog 85 = none := by decide +kernel
theorem tz85 : zeq Tryz.prog 85 = some [.nilS] := by rfl
def ty85 := (And.intro ta85 tz85)
theorem ta92 : szq Tryz.prog 92 = some 3 ∧ byq Tryz.prog 92 = some 24 ∧ agq Tryz.prog 92 = some true ∧ arq Tryz.prog 92 = none ∧ flq Tryz.prog 92 0 = some (3, 0, 1) ∧ flq Tryz.prog 92 1 = some (3, 1, 1) ∧ flq Tryz.prog 92 2 = some (3, 2, 1) ∧ plq Tryz.prog 92 = some [(0, 1), (1, 1), (2, 1)] ∧ cmpq Tryz.prog 92 = some [1, 1, 1] := by decide +kernel
theorem tz92 : zeq Tryz.prog 92 = some [.p (.i .i64 0), .p (.i .i64 0), .p (.i .i64 0)] := by rfl
def ty92 := (And.intro ta92 tz92)
theorem ta107 : szq Tryz.prog 107 = some 4 ∧ byq Tryz.prog 107 = some 32 ∧ agq Tryz.prog 107 = some true ∧ arq Tryz.prog 107 = none ∧ flq Tryz.prog 107 0 = some (48, 0, 2) ∧ flq Tryz.prog 107 1 = some (48, 2, 2) ∧ plq Tryz.prog 107 = some [(0, 2), (2, 2)] ∧ cmpq Tryz.prog 107 = some [1, 1, 1, 1] := by decide +kernel
theorem tz107 : zeq Tryz.prog 107 = some [.p (.i .i64 0), .p (.i .i64 0), .p (.i .i64 0), .p (.i .i64 0)] := by rfl
def ty107 := (And.intro ta107 tz107)
theorem ta109 : szq Tryz.prog 109 = some 3 ∧ byq Tryz.prog 109 = some 24 ∧ agq Tryz.prog 109 = some true ∧ arq Tryz.prog 109 = none ∧ flq Tryz.prog 109 0 = some (23, 0, 2) ∧ flq Tryz.prog 109 1 = some (3, 2, 1) ∧ plq Tryz.prog 109 = some [(0, 2), (2, 1)] ∧ cmpq Tryz.prog 109 = some [1, 1, 1] := by decide +kernel
theorem tz109 : zeq Tryz.prog 109 = some [.p (.i .i64 0), .p (.i .i64 0), .p (.i .i64 0)] := by rfl
def ty109 := (And.intro ta109 tz109)
theorem ta118 : szq Tryz.prog 118 = some 5 ∧ byq Tryz.prog 118 = some 40 ∧ agq Tryz.prog 118 = some true ∧ arq Tryz.prog 118 = none ∧ flq Tryz.prog 118 0 = some (3, 0, 1) ∧ flq Tryz.prog 118 1 = some (3, 1, 1) ∧ flq Tryz.prog 118 2 = some (3, 2, 1) ∧ flq Tryz.prog 118 3 = some (23, 3, 2) ∧ plq Tryz.prog 118 = some [(0, 1), (1, 1), (2, 1), (3, 2)] ∧ cmpq Tryz.prog 118 = some [1, 1, 1, 1, 1] := by decide +kernel
theorem tz118 : zeq Tryz.prog 118 = some [.p (.i .i64 0), .p (.i .i64 0), .p (.i .i64 0), .p (.i .i64 0), .p (.i .i64 0)] := by rfl
def ty118 := (And.intro ta118 tz118)
theorem ta144 : szq Tryz.prog 144 = some 1 ∧ byq Tryz.prog 144 = some 24 ∧ agq Tryz.prog 144 = some false ∧ elq Tryz.prog 144 = some 35 ∧ arq Tryz.prog 144 = none := by decide +kernel
theorem tz144 : zeq Tryz.prog 144 = some [.nilS] := by rfl
def ty144 := (And.intro ta144 tz144)
theorem ta167 : szq Tryz.prog 167 = some 2 ∧ byq Tryz.prog 167 = some 16 ∧ agq Tryz.prog 167 = some true ∧ arq Tryz.prog 167 = none ∧ flq Tryz.prog 167 0 = some (3, 0, 1) ∧ flq Tryz.prog 167 1 = some (3, 1, 1) ∧ plq Tryz.prog 167 = some [(0, 1), (1, 1)] ∧ cmpq Tryz.prog 167 = some [1, 1] := by decide +kernel
theorem tz167 : zeq Tryz.prog 167 = some [.p (.i .i64 0), .p (.i .i64 0)] := by rfl
def ty167 := (And.intro ta167 tz167)
theorem ta172 : szq Tryz.prog 172 = some 1 ∧ byq Tryz.prog 172 = some 24 ∧ agq Tryz.prog 172 = some false ∧ elq Tryz.prog 172 = some 5 ∧ arq Tryz.prog 172 = none := by decide +kernel
theorem tz172 : zeq Tryz.prog 172 = some [.nilS] := by rfl
theorem tu172 : Tryz.prog.underlying 172 = some (.slice 5) := by rfl
def ty172 := (And.intro ta172 (And.intro tz172 tu172))
def q3 := (And.intro ty26 (And.intro ty29 (And.intro ty3 (And.intro ty35 (And.intro ty34 (And.intro ty27 (And.intro ty44 (And.intro ty48 (And.intro ty23 (And.intro ty24 (And.intro ty9 (And.intro ty42 ty118))))))))))))
def q4 := (And.intro ty26 (And.intro ty29 (And.intro ty3 (And.intro ty53 (And.intro ty56 (And.intro ty35 (And.intro ty23 (And.intro ty24 (And.intro ty9 (And.intro ty27 (And.intro ty107 (And.intro ty118 ty48))))))))))))
def q5 := (And.intro ty29 (And.intro ty26 (And.intro ty24 (And.intro ty70 (And.intro ty27 (And.intro ty76 (And.intro ty35 (And.intro ty3 (And.intro ty34 (And.intro ty9 (And.intro ty23 (And.intro ty118 ty48))))))))))))
def q6 := (And.intro ty26 (And.intro ty29 (And.intro ty24 (And.intro ty3 (And.intro ty27 (And.intro ty9 (And.intro ty23 ty118)))))))
def q7 := (And.intro ty26 (And.intro ty29 (And.intro ty3 (And.intro ty23 (And.intro ty24 (And.intro ty9 (And.intro ty27 ty118)))))))
def q9 := (And.intro ty26 (And.intro ty29 (And.intro ty3 (And.intro ty84 (And.intro ty144 (And.intro ty35 (And.intro ty23 (And.intro ty24 (And.intro ty9 (And.intro ty27 (And.intro ty53 ty118)))))))))))
def q10 := (And.intro ty26 (And.intro ty24 (And.intro ty3 (And.intro ty23 ty118))))
def q11 := (And.intro ty29 (And.intro ty9 (And.intro ty27 ty3)))
def q12 := (And.intro ty26 (And.intro ty29 (And.intro ty84 (And.intro ty35 (And.intro ty3 (And.intro ty23 (And.intro ty24 (And.intro ty9 (And.intro ty27 (And.intro ty53 ty118))))))))))
def q13 := (And.intro ty44 (And.intro ty42 (And.intro ty3 ty27)))
def q14 := (And.intro ty48 ty3)
def q15 := (And.intro ty48 ty3)
def q16 := (And.intro ty44 (And.intro ty42 (And.intro ty3 ty27)))
def q17 := (And.intro ty44 (And.intro ty42 (And.intro ty3 ty27)))
def q18 := (And.intro ty48 (And.intro ty44 (And.intro ty3 (And.intro ty42 ty27))))
def q19 := (And.intro ty44 (And.intro ty42 (And.intro ty3 ty27)))
def q20 := (And.intro ty26 (And.intro ty29 (And.intro ty84 (And.intro ty35 (And.intro ty3 (And.intro ty23 (And.intro ty24 (And.intro ty9 (And.intro ty27 (And.intro ty53 ty118))))))))))
def q21 := (And.intro ty26 (And.intro ty29 (And.intro ty84 (And.intro ty35 (And.intro ty3 (And.intro ty23 (And.intro ty24 (And.intro ty9 (And.intro ty27 (And.intro ty53 ty118))))))))))
def q22 := (And.intro ty26 (And.intro ty29 (And.intro ty84 (And.intro ty35 (And.intro ty3 (And.intro ty23 (And.intro ty24 (And.intro ty9 (And.intro ty27 (And.intro ty53 ty118))))))))))
def q23 := (And.intro ty53 (And.intro ty3 ty23))
def q24 := (And.intro ty26 (And.intro ty29 (And.intro ty24 (And.intro ty3 (And.intro ty27 (And.intro ty23 (And.intro ty53 (And.intro ty9 ty118))))))))
def q25 := (And.intro ty26 (And.intro ty29 (And.intro ty24 (And.intro ty3 (And.intro ty27 (And.intro ty23 (And.intro ty53 (And.intro ty9 ty118))))))))
def q26 := (And.intro ty56 (And.intro ty3 (And.intro ty107 ty48)))
def q27 := (And.intro ty26 (And.intro ty29 (And.intro ty24 (And.intro ty3 (And.intro ty23 (And.intro ty27 (And.intro ty107 (And.intro ty56 (And.intro ty9 (And.intro ty118 ty48))))))))))
def q38 := (And.intro ty48 ty3)
def q39 := (And.intro ty26 (And.intro ty3 (And.intro ty23 (And.intro ty24 ty118))))
def q40 := (And.intro ty26 (And.intro ty29 (And.intro ty3 (And.intro ty23 (And.intro ty24 (And.intro ty9 (And.intro ty27 ty118)))))))
def q41 := (And.intro ty26 (And.intro ty29 (And.intro ty84 (And.intro ty35 (And.intro ty3 (And.intro ty27 (And.intro ty92 (And.intro ty85 (And.intro ty23 (And.intro ty24 (And.intro ty9 (And.intro ty53 ty118))))))))))))
def q42 := (And.intro ty144 (And.intro ty3 ty35))
def q45 := (And.intro ty85 (And.intro ty3 (And.intro ty92 (And.intro ty34 ty48))))
def q46 := (And.intro ty92 (And.intro ty48 (And.intro ty3 (And.intro ty26 (And.intro ty23 (And.intro ty24 ty118))))))
def q47 := (And.intro ty48 ty3)
def q48 := (And.intro ty27 ty3)
def q49 := (And.intro ty92 (And.intro ty48 ty3))
def q50 := (And.intro ty92 ty3)
def q51 := (And.intro ty42 (And.intro ty3 ty27))
def q53 := (And.intro ty42 (And.intro ty44 (And.intro ty3 ty27)))
def q54 := (And.intro ty42 (And.intro ty27 ty3))
def q55 := (And.intro ty44 (And.intro ty42 (And.intro ty3 ty27)))
def q56 := (And.intro ty44 (And.intro ty42 (And.intro ty3 ty27)))
def q57 := (And.intro ty44 (And.intro ty42 (And.intro ty3 ty27)))
def q58 := (And.intro ty42 (And.intro ty3 ty27))
def q59 := (And.intro ty85 (And.intro ty3 (And.intro ty92 (And.intro ty53 ty23))))
def q60 := (And.intro ty84 (And.intro ty92 (And.intro ty23 (And.intro ty26 (And.intro ty3 (And.intro ty53 (And.intro ty24 ty118)))))))
def q61 := (And.intro ty92 (And.intro ty23 (And.intro ty84 (And.intro ty3 (And.intro ty26 (And.intro ty53 ty24))))))
def q62 := (And.intro ty85 (And.intro ty3 (And.intro ty92 (And.intro ty56 (And.intro ty107 ty48)))))
def q63 := (And.intro ty92 (And.intro ty107 (And.intro ty84 (And.intro ty109 (And.intro ty3 (And.intro ty48 (And.intro ty26 (And.intro ty53 (And.intro ty23 ty24)))))))))
def q64 := (And.intro ty84 (And.intro ty92 (And.intro ty23 (And.intro ty53 (And.intro ty3 (And.intro ty26 (And.intro ty24 ty118)))))))
def q65 := (And.intro ty109 (And.intro ty107 (And.intro ty23 (And.intro ty3 ty48))))
def q66 := (And.intro ty26 (And.intro ty29 (And.intro ty3 (And.intro ty27 (And.intro ty23 (And.intro ty24 (And.intro ty9 ty118)))))))
def q67 := (And.intro ty26 (And.intro ty3 (And.intro ty23 (And.intro ty24 ty118))))
def q68 := (And.intro ty26 (And.intro ty3 (And.intro ty23 (And.intro ty24 ty118))))
def q69 := (And.intro ty26 (And.intro ty23 (And.intro ty3 (And.intro ty24 ty118))))
def q70 := (And.intro ty26 (And.intro ty3 (And.intro ty23 (And.intro ty24 ty118))))
def q84 := (And.intro ty26 (And.intro ty84 (And.intro ty23 (And.intro ty24 (And.intro ty3 (And.intro ty118 ty53))))))
def q87 := (And.intro ty26 (And.intro ty3 (And.intro ty23 (And.intro ty24 ty118))))
def q88 := (And.intro ty26 (And.intro ty29 (And.intro ty9 (And.intro ty27 (And.intro ty24 (And.intro ty3 (And.intro ty23 ty118)))))))
def q89 := (And.intro ty26 (And.intro ty29 (And.intro ty35 (And.intro ty9 (And.intro ty27 (And.intro ty24 (And.intro ty3 (And.intro ty144 (And.intro ty23 ty118)))))))))
def q92 := (And.intro ty42 (And.intro ty27 ty3))
def q93 := (And.intro ty42 (And.intro ty3 ty27))
def q94 := (And.intro ty42 (And.intro ty3 ty27))
def q95 := (And.intro ty42 (And.intro ty3 ty27))
def q96 := (And.intro ty42 (And.intro ty3 ty27))
def q97 := (And.intro ty42 (And.intro ty3 ty27))
def q98 := (And.intro ty42 (And.intro ty3 ty27))
def q99 := (And.intro ty84 (And.intro ty92 (And.intro ty3 (And.intro ty26 (And.intro ty53 (And.intro ty23 (And.intro ty24 ty118)))))))
def q100 := (And.intro ty84 (And.intro ty92 (And.intro ty3 (And.intro ty26 (And.intro ty53 (And.intro ty23 (And.intro ty24 ty118)))))))
def q106 := (And.intro ty26 (And.intro ty3 (And.intro ty167 (And.intro ty23 (And.intro ty53 (And.intro ty24 (And.intro ty144 (And.intro ty35 ty118))))))))
def q107 := (And.intro ty167 ty3)
def q113 := (And.intro ty9 (And.intro ty3 ty5))
def q114 := (And.intro ty9 (And.intro ty172 (And.intro ty3 ty5)))
def q115 := (And.intro ty27 ty3)
def q116 := (And.intro ty42 (And.intro ty3 ty27))
def q117 := (And.intro ty27 ty3)
def q118 := (And.intro ty27 ty3)
def q119 := (And.intro ty27 ty3)
def q122 := (And.intro ty167 (And.intro ty23 ty3))
def q126 := (And.intro ty27 ty3)
def q129 := (And.intro ty23 ty3)
def q130 := (And.intro ty27 ty3)
def q133 := (And.intro ty53 (And.intro ty3 ty23))
end Go.Vm
