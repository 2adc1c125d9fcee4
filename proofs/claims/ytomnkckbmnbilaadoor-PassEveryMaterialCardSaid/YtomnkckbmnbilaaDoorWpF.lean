import Derived.Test.YtomnkckbmnbilaaDoorVmBC
import Derived.Test.YtomnkckbmnbilaaDoorProg
set_option linter.all false
/- What the program's types are. Printed by VmFacts.lean. -/
namespace Go.Vm
open Go.Proofs
set_option maxRecDepth 20000
set_option maxHeartbeats 8000000
/-- The package's variables: heat, stress, friction, loss, thickness. -/
def Γ0 : Nat → Option (List V)
  | 0 => some [.i .i64 0, .i .i64 20000]
  | 1 => some [.i .i64 1, .i .i64 100]
  | 2 => some [.i .i64 0, .i .i64 100]
  | 3 => some [.i .i64 0, .i .i64 1000]
  | 4 => some [.i .i64 1, .i .i64 1000]
  | _ => none
abbrev Sp0 : FuncId → List V → R → Prop := Spec Tryd.prog Γ0
abbrev nn (n : Int) : V := .i .i64 n
theorem mixed : Tryd.prog.follows .mixedOrders = true := by decide +kernel
theorem wr64 {n : Int} (h1 : -9223372036854775808 ≤ n) (h2 : n ≤ 9223372036854775807) : IntKind.wrap .i64 n = n := by
  simp [IntKind.wrap, IntKind.signed, IntKind.bits] <;> (try split) <;> omega
theorem mapnn {xs : List Int} : (∀ y, y ∈ List.map nn xs → y.cells.length = 1) = True := by
  simp only [List.mem_map, eq_iff_iff, iff_true]; rintro y ⟨a, _, rfl⟩; rfl
abbrev p2 (p : Int × Int) : V := .agg [nn p.1, nn p.2]
theorem mapp2 {xs : List (Int × Int)} : (∀ y, y ∈ List.map p2 xs → y.cells.length = 2) = True := by
  simp only [List.mem_map, eq_iff_iff, iff_true]; rintro y ⟨a, _, rfl⟩; rfl
theorem maxB : maxBytes = 1099511627776 := rfl
theorem mapDrop {α : Type} {f : α → V} {xs : List α} {n : Nat} : (xs.map f).drop n = (xs.drop n).map f := by rw [List.map_drop]
theorem mapTake {α : Type} {f : α → V} {xs : List α} {n : Nat} : (xs.map f).take n = (xs.take n).map f := by rw [List.map_take]
theorem mapApp {α : Type} {f : α → V} {xs ys : List α} : xs.map f ++ ys.map f = (xs ++ ys).map f := by rw [List.map_append]
theorem mapSnoc {xs : List Int} {y : Int} : xs.map nn ++ [V.i .i64 y] = (xs ++ [y]).map nn := by rw [List.map_append]; rfl
theorem mapSnoc2 {xs : List (Int × Int)} {y z : Int} : xs.map p2 ++ [V.agg [V.i .i64 y, V.i .i64 z]] = (xs ++ [(y, z)]).map p2 := by rw [List.map_append]; rfl
theorem mapRep {n : Nat} {a : Int} : List.replicate n (V.i .i64 a) = (List.replicate n a).map nn := by rw [List.map_replicate]
theorem mapSet {xs : List Int} {n : Nat} {a : Int} : (xs.map nn).set n (V.i .i64 a) = (xs.set n a).map nn := by rw [List.map_set]
theorem isNil_nn {σ : VS} {x : Int} {xs : List Int} : isNil σ (.p (.sl ((x :: xs).map nn))) = some false := rfl
theorem cast0' : ((0 : Nat) : Int) = 0 := rfl
theorem castPred {i : Nat} : ((i : Int) - 1).toNat = i - 1 := by omega
theorem castSucc {i : Nat} : ((i : Int) + 1).toNat = i + 1 := by omega
theorem toNat0 : Int.toNat 0 = 0 := rfl
theorem evg0 {σ : VS} : σ.ev Γ0 (.global 0) = .p (.ref [.i .i64 0, .i .i64 20000]) := Eq.trans rfl rfl
theorem evg1 {σ : VS} : σ.ev Γ0 (.global 1) = .p (.ref [.i .i64 1, .i .i64 100]) := Eq.trans rfl rfl
theorem evg2 {σ : VS} : σ.ev Γ0 (.global 2) = .p (.ref [.i .i64 0, .i .i64 100]) := Eq.trans rfl rfl
theorem evg3 {σ : VS} : σ.ev Γ0 (.global 3) = .p (.ref [.i .i64 0, .i .i64 1000]) := Eq.trans rfl rfl
theorem evg4 {σ : VS} : σ.ev Γ0 (.global 4) = .p (.ref [.i .i64 1, .i .i64 1000]) := Eq.trans rfl rfl
theorem winM_0 : winM Γ0 = false := Eq.trans rfl rfl
def vp := And.intro @winM_0 <| And.intro (@Option.map_none.{0, 0}) <| And.intro @evg0 <| And.intro @evg1 <| And.intro @evg2 <| And.intro @evg3 <| And.intro @evg4 <| And.intro @toNat0 <| And.intro @castPred <| And.intro @castSucc <| And.intro @mapnn (And.intro @mapp2 (And.intro @maxB (And.intro @mapDrop (And.intro @mapTake (And.intro @mapApp (And.intro @mapSnoc (And.intro @mapSnoc2 (And.intro @mapRep (And.intro @mapSet (And.intro @isNil_nn @cast0'))))))))))
theorem ta3 : szq Tryd.prog 3 = some 1 ∧ byq Tryd.prog 3 = some 8 ∧ agq Tryd.prog 3 = some false ∧ arq Tryd.prog 3 = none := by decide +kernel
theorem tz3 : zeq Tryd.prog 3 = some [.p (.i .i64 0)] := by rfl
theorem tu3 : Tryd.prog.underlying 3 = some (.int .i64) := by rfl
def ty3 := (And.intro ta3 (And.intro tz3 tu3))
theorem ta4 : szq Tryd.prog 4 = some 1 ∧ byq Tryd.prog 4 = some 1 ∧ agq Tryd.prog 4 = some false ∧ arq Tryd.prog 4 = none ∧ isBool Tryd.prog 4 = true := by decide +kernel
theorem tz4 : zeq Tryd.prog 4 = some [.p (.b false)] := by rfl
def ty4 := (And.intro ta4 tz4)
theorem ta5 : szq Tryd.prog 5 = some 1 ∧ byq Tryd.prog 5 = some 1 ∧ agq Tryd.prog 5 = some false ∧ arq Tryd.prog 5 = none := by decide +kernel
theorem tz5 : zeq Tryd.prog 5 = some [.p (.i .u8 0)] := by rfl
theorem tu5 : Tryd.prog.underlying 5 = some (.int .u8) := by rfl
def ty5 := (And.intro ta5 (And.intro tz5 tu5))
theorem ta9 : szq Tryd.prog 9 = some 1 ∧ byq Tryd.prog 9 = some 16 ∧ agq Tryd.prog 9 = some false ∧ arq Tryd.prog 9 = none ∧ isStr Tryd.prog 9 = true := by decide +kernel
theorem tz9 : zeq Tryd.prog 9 = some [.p (.s ByteArray.empty)] := by rfl
theorem tu9 : Tryd.prog.underlying 9 = some .string := by rfl
def ty9 := (And.intro ta9 (And.intro tz9 tu9))
theorem ta23 : szq Tryd.prog 23 = some 2 ∧ byq Tryd.prog 23 = some 16 ∧ agq Tryd.prog 23 = some true ∧ arq Tryd.prog 23 = none ∧ flq Tryd.prog 23 0 = some (3, 0, 1) ∧ flq Tryd.prog 23 1 = some (3, 1, 1) ∧ plq Tryd.prog 23 = some [(0, 1), (1, 1)] ∧ cmpq Tryd.prog 23 = some [1, 1] := by decide +kernel
theorem tz23 : zeq Tryd.prog 23 = some [.p (.i .i64 0), .p (.i .i64 0)] := by rfl
def ty23 := (And.intro ta23 tz23)
theorem ta24 : szq Tryd.prog 24 = some 1 ∧ byq Tryd.prog 24 = some 24 ∧ agq Tryd.prog 24 = some false ∧ elq Tryd.prog 24 = some 60 ∧ arq Tryd.prog 24 = none := by decide +kernel
theorem tz24 : zeq Tryd.prog 24 = some [.nilS] := by rfl
def ty24 := (And.intro ta24 tz24)
theorem ta26 : szq Tryd.prog 26 = some 11 ∧ byq Tryd.prog 26 = some 104 ∧ agq Tryd.prog 26 = some true ∧ arq Tryd.prog 26 = none ∧ flq Tryd.prog 26 0 = some (3, 0, 1) ∧ flq Tryd.prog 26 1 = some (3, 1, 1) ∧ flq Tryd.prog 26 2 = some (3, 2, 1) ∧ flq Tryd.prog 26 3 = some (23, 3, 2) ∧ flq Tryd.prog 26 4 = some (3, 5, 1) ∧ flq Tryd.prog 26 5 = some (24, 6, 1) ∧ flq Tryd.prog 26 6 = some (23, 7, 2) ∧ flq Tryd.prog 26 7 = some (23, 9, 2) ∧ plq Tryd.prog 26 = some [(0, 1), (1, 1), (2, 1), (3, 2), (5, 1), (6, 1), (7, 2), (9, 2)] := by decide +kernel
theorem tz26 : zeq Tryd.prog 26 = some [.p (.i .i64 0), .p (.i .i64 0), .p (.i .i64 0), .p (.i .i64 0), .p (.i .i64 0), .p (.i .i64 0), .nilS, .p (.i .i64 0), .p (.i .i64 0), .p (.i .i64 0), .p (.i .i64 0)] := by rfl
def ty26 := (And.intro ta26 tz26)
theorem ta27 : szq Tryd.prog 27 = some 1 ∧ byq Tryd.prog 27 = some 24 ∧ agq Tryd.prog 27 = some false ∧ elq Tryd.prog 27 = some 3 ∧ arq Tryd.prog 27 = none := by decide +kernel
theorem tz27 : zeq Tryd.prog 27 = some [.nilS] := by rfl
def ty27 := (And.intro ta27 tz27)
theorem ta29 : szq Tryd.prog 29 = some 2 ∧ byq Tryd.prog 29 = some 40 ∧ agq Tryd.prog 29 = some true ∧ arq Tryd.prog 29 = none ∧ flq Tryd.prog 29 0 = some (9, 0, 1) ∧ flq Tryd.prog 29 1 = some (27, 1, 1) ∧ plq Tryd.prog 29 = some [(0, 1), (1, 1)] := by decide +kernel
theorem tz29 : zeq Tryd.prog 29 = some [.p (.s ByteArray.empty), .nilS] := by rfl
def ty29 := (And.intro ta29 tz29)
theorem ta31 : szq Tryd.prog 31 = some 4 ∧ byq Tryd.prog 31 = some 48 ∧ agq Tryd.prog 31 = some true ∧ arq Tryd.prog 31 = none ∧ flq Tryd.prog 31 0 = some (3, 0, 1) ∧ flq Tryd.prog 31 1 = some (3, 1, 1) ∧ flq Tryd.prog 31 2 = some (3, 2, 1) ∧ flq Tryd.prog 31 3 = some (27, 3, 1) ∧ plq Tryd.prog 31 = some [(0, 1), (1, 1), (2, 1), (3, 1)] := by decide +kernel
theorem tz31 : zeq Tryd.prog 31 = some [.p (.i .i64 0), .p (.i .i64 0), .p (.i .i64 0), .nilS] := by rfl
def ty31 := (And.intro ta31 tz31)
theorem ta34 : szq Tryd.prog 34 = some 1 ∧ byq Tryd.prog 34 = some 8 ∧ agq Tryd.prog 34 = some false ∧ arq Tryd.prog 34 = none := by decide +kernel
theorem tz34 : zeq Tryd.prog 34 = some [.p (.i .i64 0)] := by rfl
theorem tu34 : Tryd.prog.underlying 34 = some (.int .i64) := by rfl
def ty34 := (And.intro ta34 (And.intro tz34 tu34))
theorem ta39 : szq Tryd.prog 39 = some 1 ∧ byq Tryd.prog 39 = some 24 ∧ agq Tryd.prog 39 = some false ∧ elq Tryd.prog 39 = some 77 ∧ arq Tryd.prog 39 = none := by decide +kernel
theorem tz39 : zeq Tryd.prog 39 = some [.nilS] := by rfl
def ty39 := (And.intro ta39 tz39)
theorem ta54 : szq Tryd.prog 54 = some 2 ∧ byq Tryd.prog 54 = some 32 ∧ agq Tryd.prog 54 = some true ∧ arq Tryd.prog 54 = none ∧ flq Tryd.prog 54 0 = some (3, 0, 1) ∧ flq Tryd.prog 54 1 = some (27, 1, 1) ∧ plq Tryd.prog 54 = some [(0, 1), (1, 1)] := by decide +kernel
theorem tz54 : zeq Tryd.prog 54 = some [.p (.i .i64 0), .nilS] := by rfl
def ty54 := (And.intro ta54 tz54)
theorem ta60 : szq Tryd.prog 60 = some 5 ∧ byq Tryd.prog 60 = some 40 ∧ agq Tryd.prog 60 = some true ∧ arq Tryd.prog 60 = none ∧ flq Tryd.prog 60 0 = some (3, 0, 1) ∧ flq Tryd.prog 60 1 = some (3, 1, 1) ∧ flq Tryd.prog 60 2 = some (3, 2, 1) ∧ flq Tryd.prog 60 3 = some (23, 3, 2) ∧ plq Tryd.prog 60 = some [(0, 1), (1, 1), (2, 1), (3, 2)] ∧ cmpq Tryd.prog 60 = some [1, 1, 1, 1, 1] := by decide +kernel
theorem tz60 : zeq Tryd.prog 60 = some [.p (.i .i64 0), .p (.i .i64 0), .p (.i .i64 0), .p (.i .i64 0), .p (.i .i64 0)] := by rfl
def ty60 := (And.intro ta60 tz60)
theorem ta72 : szq Tryd.prog 72 = some 1 ∧ byq Tryd.prog 72 = some 24 ∧ agq Tryd.prog 72 = some false ∧ elq Tryd.prog 72 = some 79 ∧ arq Tryd.prog 72 = none := by decide +kernel
theorem tz72 : zeq Tryd.prog 72 = some [.nilS] := by rfl
def ty72 := (And.intro ta72 tz72)
theorem ta77 : szq Tryd.prog 77 = some 2 ∧ byq Tryd.prog 77 = some 16 ∧ agq Tryd.prog 77 = some true ∧ arq Tryd.prog 77 = none ∧ flq Tryd.prog 77 0 = some (3, 0, 1) ∧ flq Tryd.prog 77 1 = some (3, 1, 1) ∧ plq Tryd.prog 77 = some [(0, 1), (1, 1)] ∧ cmpq Tryd.prog 77 = some [1, 1] := by decide +kernel
theorem tz77 : zeq Tryd.prog 77 = some [.p (.i .i64 0), .p (.i .i64 0)] := by rfl
def ty77 := (And.intro ta77 tz77)
theorem ta79 : szq Tryd.prog 79 = some 4 ∧ byq Tryd.prog 79 = some 32 ∧ agq Tryd.prog 79 = some true ∧ arq Tryd.prog 79 = none ∧ flq Tryd.prog 79 0 = some (77, 0, 2) ∧ flq Tryd.prog 79 1 = some (77, 2, 2) ∧ plq Tryd.prog 79 = some [(0, 2), (2, 2)] ∧ cmpq Tryd.prog 79 = some [1, 1, 1, 1] := by decide +kernel
theorem tz79 : zeq Tryd.prog 79 = some [.p (.i .i64 0), .p (.i .i64 0), .p (.i .i64 0), .p (.i .i64 0)] := by rfl
def ty79 := (And.intro ta79 tz79)
theorem ta81 : szq Tryd.prog 81 = some 1 ∧ byq Tryd.prog 81 = some 24 ∧ agq Tryd.prog 81 = some false ∧ elq Tryd.prog 81 = some 23 ∧ arq Tryd.prog 81 = none := by decide +kernel
theorem tz81 : zeq Tryd.prog 81 = some [.nilS] := by rfl
def ty81 := (And.intro ta81 tz81)
theorem ta112 : szq Tryd.prog 112 = some 12 ∧ byq Tryd.prog 112 = some 128 ∧ agq Tryd.prog 112 = some true ∧ arq Tryd.prog 112 = none ∧ flq Tryd.prog 112 0 = some (26, 0, 11) ∧ flq Tryd.prog 112 1 = some (81, 11, 1) ∧ plq Tryd.prog 112 = some [(0, 11), (11, 1)] := by decide +kernel
theorem tz112 : zeq Tryd.prog 112 = some [.p (.i .i64 0), .p (.i .i64 0), .p (.i .i64 0), .p (.i .i64 0), .p (.i .i64 0), .p (.i .i64 0), .nilS, .p (.i .i64 0), .p (.i .i64 0), .p (.i .i64 0), .p (.i .i64 0), .nilS] := by rfl
def ty112 := (And.intro ta112 tz112)
theorem ta113 : szq Tryd.prog 113 = some 1 ∧ byq Tryd.prog 113 = some 24 ∧ agq Tryd.prog 113 = some false ∧ elq Tryd.prog 113 = some 120 ∧ arq Tryd.prog 113 = none := by decide +kernel
theorem tz113 : zeq Tryd.prog 113 = some [.nilS] := by rfl
def ty113 := (And.intro ta113 tz113)
theorem ta120 : szq Tryd.prog 120 = some 3 ∧ byq Tryd.prog 120 = some 24 ∧ agq Tryd.prog 120 = some true ∧ arq Tryd.prog 120 = none ∧ flq Tryd.prog 120 0 = some (3, 0, 1) ∧ flq Tryd.prog 120 1 = some (3, 1, 1) ∧ flq Tryd.prog 120 2 = some (3, 2, 1) ∧ plq Tryd.prog 120 = some [(0, 1), (1, 1), (2, 1)] ∧ cmpq Tryd.prog 120 = some [1, 1, 1] := by decide +kernel
theorem tz120 : zeq Tryd.prog 120 = some [.p (.i .i64 0), .p (.i .i64 0), .p (.i .i64 0)] := by rfl
def ty120 := (And.intro ta120 tz120)
theorem ta122 : szq Tryd.prog 122 = some 3 ∧ byq Tryd.prog 122 = some 24 ∧ agq Tryd.prog 122 = some true ∧ arq Tryd.prog 122 = none ∧ flq Tryd.prog 122 0 = some (23, 0, 2) ∧ flq Tryd.prog 122 1 = some (3, 2, 1) ∧ plq Tryd.prog 122 = some [(0, 2), (2, 1)] ∧ cmpq Tryd.prog 122 = some [1, 1, 1] := by decide +kernel
theorem tz122 : zeq Tryd.prog 122 = some [.p (.i .i64 0), .p (.i .i64 0), .p (.i .i64 0)] := by rfl
def ty122 := (And.intro ta122 tz122)
theorem ta123 : szq Tryd.prog 123 = some 12 ∧ byq Tryd.prog 123 = some 96 ∧ agq Tryd.prog 123 = some true ∧ arq Tryd.prog 123 = some (4, 122) ∧ plq Tryd.prog 123 = some [(0, 3), (3, 3), (6, 3), (9, 3)] := by decide +kernel
theorem tz123 : zeq Tryd.prog 123 = some [.p (.i .i64 0), .p (.i .i64 0), .p (.i .i64 0), .p (.i .i64 0), .p (.i .i64 0), .p (.i .i64 0), .p (.i .i64 0), .p (.i .i64 0), .p (.i .i64 0), .p (.i .i64 0), .p (.i .i64 0), .p (.i .i64 0)] := by rfl
def ty123 := (And.intro ta123 tz123)
theorem ta143 : szq Tryd.prog 143 = some 2 ∧ byq Tryd.prog 143 = some 16 ∧ agq Tryd.prog 143 = some true ∧ arq Tryd.prog 143 = none ∧ flq Tryd.prog 143 0 = some (3, 0, 1) ∧ flq Tryd.prog 143 1 = some (3, 1, 1) ∧ plq Tryd.prog 143 = some [(0, 1), (1, 1)] ∧ cmpq Tryd.prog 143 = some [1, 1] := by decide +kernel
theorem tz143 : zeq Tryd.prog 143 = some [.p (.i .i64 0), .p (.i .i64 0)] := by rfl
def ty143 := (And.intro ta143 tz143)
theorem ta164 : szq Tryd.prog 164 = some 1 ∧ byq Tryd.prog 164 = some 24 ∧ agq Tryd.prog 164 = some false ∧ elq Tryd.prog 164 = some 34 ∧ arq Tryd.prog 164 = none := by decide +kernel
theorem tz164 : zeq Tryd.prog 164 = some [.nilS] := by rfl
def ty164 := (And.intro ta164 tz164)
theorem ta171 : szq Tryd.prog 171 = some 1 ∧ byq Tryd.prog 171 = some 24 ∧ agq Tryd.prog 171 = some false ∧ elq Tryd.prog 171 = some 5 ∧ arq Tryd.prog 171 = none := by decide +kernel
theorem tz171 : zeq Tryd.prog 171 = some [.nilS] := by rfl
theorem tu171 : Tryd.prog.underlying 171 = some (.slice 5) := by rfl
def ty171 := (And.intro ta171 (And.intro tz171 tu171))
def q3 := (And.intro ty26 (And.intro ty29 (And.intro ty31 (And.intro ty27 (And.intro ty3 (And.intro ty39 (And.intro ty34 (And.intro ty4 (And.intro ty23 (And.intro ty24 (And.intro ty9 (And.intro ty77 ty60))))))))))))
def q4 := (And.intro ty26 (And.intro ty29 (And.intro ty3 (And.intro ty54 (And.intro ty34 (And.intro ty27 (And.intro ty24 (And.intro ty60 (And.intro ty23 ty9)))))))))
def q5 := (And.intro ty26 (And.intro ty29 (And.intro ty3 (And.intro ty39 (And.intro ty34 (And.intro ty23 (And.intro ty24 (And.intro ty9 (And.intro ty27 (And.intro ty77 ty60))))))))))
def q6 := (And.intro ty26 (And.intro ty29 (And.intro ty31 (And.intro ty3 (And.intro ty34 (And.intro ty39 (And.intro ty24 (And.intro ty72 (And.intro ty77 (And.intro ty79 (And.intro ty23 (And.intro ty27 (And.intro ty60 (And.intro ty4 ty9))))))))))))))
def q7 := (And.intro ty26 (And.intro ty29 (And.intro ty54 (And.intro ty3 (And.intro ty81 (And.intro ty34 (And.intro ty23 (And.intro ty24 (And.intro ty9 (And.intro ty27 ty60))))))))))
def q10 := (And.intro ty26 (And.intro ty29 (And.intro ty24 (And.intro ty3 (And.intro ty27 (And.intro ty9 (And.intro ty23 ty60)))))))
def q11 := (And.intro ty26 (And.intro ty31 (And.intro ty34 (And.intro ty3 (And.intro ty23 (And.intro ty27 (And.intro ty24 (And.intro ty164 ty60))))))))
def q12 := (And.intro ty26 (And.intro ty24 (And.intro ty3 (And.intro ty23 ty60))))
def q13 := (And.intro ty31 (And.intro ty27 ty3))
def q14 := (And.intro ty26 (And.intro ty29 (And.intro ty31 (And.intro ty112 (And.intro ty34 (And.intro ty3 (And.intro ty23 (And.intro ty24 (And.intro ty27 (And.intro ty60 (And.intro ty113 (And.intro ty120 (And.intro ty123 (And.intro ty122 (And.intro ty9 ty81)))))))))))))))
def q15 := (And.intro ty29 (And.intro ty9 (And.intro ty27 ty3)))
def q16 := (And.intro ty26 (And.intro ty3 (And.intro ty23 (And.intro ty24 ty60))))
def q17 := (And.intro ty26 (And.intro ty31 (And.intro ty3 (And.intro ty23 (And.intro ty27 (And.intro ty24 ty60))))))
def q18 := (And.intro ty26 (And.intro ty29 (And.intro ty3 (And.intro ty23 (And.intro ty24 (And.intro ty9 (And.intro ty27 ty60)))))))
def q19 := (And.intro ty26 (And.intro ty29 (And.intro ty31 (And.intro ty24 (And.intro ty3 (And.intro ty27 (And.intro ty60 (And.intro ty39 (And.intro ty23 (And.intro ty9 ty77))))))))))
def q20 := (And.intro ty39 (And.intro ty3 ty77))
def q26 := (And.intro ty26 (And.intro ty3 (And.intro ty143 (And.intro ty23 (And.intro ty81 (And.intro ty24 (And.intro ty164 (And.intro ty34 ty60))))))))
def q27 := (And.intro ty26 (And.intro ty29 (And.intro ty34 (And.intro ty9 (And.intro ty27 (And.intro ty24 (And.intro ty3 (And.intro ty164 (And.intro ty23 ty60)))))))))
def q30 := (And.intro ty26 (And.intro ty3 (And.intro ty23 (And.intro ty24 ty60))))
def q31 := (And.intro ty26 (And.intro ty29 (And.intro ty9 (And.intro ty27 (And.intro ty24 (And.intro ty3 (And.intro ty23 ty60)))))))
def q32 := (And.intro ty26 (And.intro ty29 (And.intro ty24 (And.intro ty3 (And.intro ty27 (And.intro ty39 (And.intro ty23 (And.intro ty9 (And.intro ty60 ty77)))))))))
def q33 := (And.intro ty26 (And.intro ty29 (And.intro ty24 (And.intro ty3 (And.intro ty27 (And.intro ty39 (And.intro ty23 (And.intro ty9 (And.intro ty60 ty77)))))))))
def q34 := (And.intro ty26 (And.intro ty29 (And.intro ty3 (And.intro ty23 (And.intro ty24 (And.intro ty9 (And.intro ty27 ty60)))))))
def q36 := (And.intro ty26 (And.intro ty29 (And.intro ty112 (And.intro ty34 (And.intro ty113 (And.intro ty3 (And.intro ty120 (And.intro ty123 (And.intro ty122 (And.intro ty23 (And.intro ty24 (And.intro ty9 (And.intro ty27 (And.intro ty81 ty60))))))))))))))
def q41 := (And.intro ty26 (And.intro ty29 (And.intro ty3 (And.intro ty112 (And.intro ty164 (And.intro ty34 (And.intro ty23 (And.intro ty24 (And.intro ty9 (And.intro ty27 (And.intro ty81 ty60)))))))))))
def q42 := (And.intro ty26 (And.intro ty29 (And.intro ty54 (And.intro ty112 (And.intro ty34 (And.intro ty113 (And.intro ty3 (And.intro ty120 (And.intro ty123 (And.intro ty122 (And.intro ty23 (And.intro ty27 (And.intro ty24 (And.intro ty9 (And.intro ty81 ty60)))))))))))))))
def q43 := (And.intro ty54 (And.intro ty3 ty27))
def q44 := (And.intro ty26 (And.intro ty29 (And.intro ty24 (And.intro ty3 (And.intro ty27 (And.intro ty23 (And.intro ty9 ty60)))))))
def q45 := (And.intro ty26 (And.intro ty29 (And.intro ty54 (And.intro ty24 (And.intro ty3 (And.intro ty27 (And.intro ty23 (And.intro ty9 ty60))))))))
def q46 := (And.intro ty81 (And.intro ty3 ty23))
def q47 := (And.intro ty26 (And.intro ty29 (And.intro ty24 (And.intro ty3 (And.intro ty27 (And.intro ty81 (And.intro ty23 (And.intro ty9 ty60))))))))
def q60 := (And.intro ty77 ty3)
def q61 := (And.intro ty23 ty3)
def q62 := (And.intro ty164 (And.intro ty3 ty34))
def q64 := (And.intro ty27 ty3)
def q65 := (And.intro ty26 (And.intro ty29 (And.intro ty112 (And.intro ty34 (And.intro ty3 (And.intro ty27 (And.intro ty120 (And.intro ty113 (And.intro ty23 (And.intro ty24 (And.intro ty9 (And.intro ty81 ty60))))))))))))
def q66 := (And.intro ty23 ty3)
def q67 := (And.intro ty24 (And.intro ty60 (And.intro ty3 ty23)))
def q68 := (And.intro ty26 (And.intro ty112 (And.intro ty23 (And.intro ty24 (And.intro ty3 (And.intro ty60 ty81))))))
def q69 := (And.intro ty112 (And.intro ty120 (And.intro ty123 (And.intro ty26 (And.intro ty24 (And.intro ty3 (And.intro ty60 (And.intro ty23 (And.intro ty122 ty81)))))))))
def q70 := (And.intro ty113 (And.intro ty3 (And.intro ty120 (And.intro ty39 ty77))))
def q71 := (And.intro ty120 (And.intro ty77 (And.intro ty112 (And.intro ty23 (And.intro ty3 (And.intro ty26 (And.intro ty81 ty24)))))))
def q72 := (And.intro ty77 ty3)
def q73 := (And.intro ty112 (And.intro ty120 (And.intro ty23 (And.intro ty81 (And.intro ty3 (And.intro ty26 (And.intro ty24 ty60)))))))
def q74 := (And.intro ty26 (And.intro ty29 (And.intro ty3 (And.intro ty27 (And.intro ty23 (And.intro ty24 (And.intro ty9 ty60)))))))
def q75 := (And.intro ty26 (And.intro ty3 (And.intro ty23 (And.intro ty24 ty60))))
def q76 := (And.intro ty26 (And.intro ty3 (And.intro ty23 (And.intro ty24 ty60))))
def q77 := (And.intro ty26 (And.intro ty3 (And.intro ty23 (And.intro ty24 ty60))))
def q78 := (And.intro ty60 (And.intro ty3 ty23))
def q86 := (And.intro ty143 ty3)
def q87 := (And.intro ty143 (And.intro ty23 ty3))
def q89 := (And.intro ty9 (And.intro ty171 (And.intro ty3 ty5)))
def q91 := (And.intro ty120 ty3)
def q95 := (And.intro ty9 (And.intro ty3 ty5))
def q100 := (And.intro ty113 (And.intro ty3 (And.intro ty120 (And.intro ty81 ty23))))
def q101 := (And.intro ty120 (And.intro ty23 (And.intro ty112 (And.intro ty3 (And.intro ty123 (And.intro ty122 (And.intro ty26 (And.intro ty81 ty24))))))))
def q102 := (And.intro ty27 ty3)
def q103 := (And.intro ty26 (And.intro ty23 (And.intro ty24 (And.intro ty60 ty3))))
def q111 := (And.intro ty112 (And.intro ty120 (And.intro ty23 (And.intro ty26 (And.intro ty3 (And.intro ty81 (And.intro ty24 ty60)))))))
def q112 := (And.intro ty112 (And.intro ty120 (And.intro ty3 (And.intro ty26 (And.intro ty24 (And.intro ty60 (And.intro ty81 ty23)))))))
def q114 := (And.intro ty112 (And.intro ty120 (And.intro ty3 (And.intro ty26 (And.intro ty81 (And.intro ty23 (And.intro ty24 ty60)))))))
def q118 := (And.intro ty23 ty3)
def q120 := (And.intro ty26 (And.intro ty23 (And.intro ty3 (And.intro ty24 ty60))))
def q127 := (And.intro ty112 (And.intro ty120 (And.intro ty3 (And.intro ty26 (And.intro ty81 (And.intro ty23 (And.intro ty24 ty60)))))))
def q130 := (And.intro ty81 (And.intro ty3 ty23))
def q133 := (And.intro ty27 ty3)
end Go.Vm
