import Derived.Test.YtoefpbjabpaeaaaGreatDoorVmBC
import Derived.Test.YtoefpbjabpaeaaaGreatDoorProg
set_option linter.all false
/- What the program's types are. Printed by VmFacts.lean. -/
namespace Go.Vm
open Go.Proofs
set_option maxRecDepth 20000
set_option maxHeartbeats 8000000
def Γ0 : Nat → Option (List V) := fun _ => none
abbrev Sp0 : FuncId → List V → R → Prop := Spec Tryz.prog Γ0
abbrev nn (n : Int) : V := .i .i64 n
theorem mixed : Tryz.prog.follows .mixedOrders = true := by decide +kernel
theorem wr64 {n : Int} (h1 : -9223372036854775808 ≤ n) (h2 : n ≤ 9223372036854775807) : IntKind.wrap .i64 n = n := by
  simp [IntKind.wrap, IntKind.signed, IntKind.bits] <;> (try split) <;> omega
theorem mapnn {xs : List Int} : (∀ y, y ∈ List.map nn xs → y.cells.length = 1) = True := by
  simp only [List.mem_map, eq_iff_iff, iff_true]; rintro y ⟨a, _, rfl⟩; rfl
abbrev p2 (p : Int × Int) : V := .agg [nn p.1, nn p.2]
theorem mapp2 {xs : List (Int × Int)} : (∀ y, y ∈ List.map p2 xs → y.cells.length = 2) = True := by
  simp only [List.mem_map, eq_iff_iff, iff_true]; rintro y ⟨a, _, rfl⟩; rfl
theorem maxB : maxBytes = 1099511627776 := rfl
theorem mapDrop {α : Type} {f : α → V} {xs : List α} {n : Nat} : (xs.map f).drop n = (xs.drop n).map f := by rw [List.map_drop]
theorem mapTake {α : Type} {f : α → V} {xs : List α} {n : Nat} : (xs.map f).take n = (xs.take n).map f := by rw [List.map_take]
theorem mapApp {α : Type} {f : α → V} {xs ys : List α} : xs.map f ++ ys.map f = (xs ++ ys).map f := by rw [List.map_append]
theorem mapSnoc {xs : List Int} {y : Int} : xs.map nn ++ [V.i .i64 y] = (xs ++ [y]).map nn := by rw [List.map_append]; rfl
theorem mapSnoc2 {xs : List (Int × Int)} {y z : Int} : xs.map p2 ++ [V.agg [V.i .i64 y, V.i .i64 z]] = (xs ++ [(y, z)]).map p2 := by rw [List.map_append]; rfl
theorem mapRep {n : Nat} {a : Int} : List.replicate n (V.i .i64 a) = (List.replicate n a).map nn := by rw [List.map_replicate]
theorem mapSet {xs : List Int} {n : Nat} {a : Int} : (xs.map nn).set n (V.i .i64 a) = (xs.set n a).map nn := by rw [List.map_set]
theorem isNil_nn {σ : VS} {x : Int} {xs : List Int} : isNil σ (.p (.sl ((x :: xs).map nn))) = some false := rfl
theorem cast0' : ((0 : Nat) : Int) = 0 := rfl
theorem castPred {i : Nat} : ((i : Int) - 1).toNat = i - 1 := by omega
theorem castSucc {i : Nat} : ((i : Int) + 1).toNat = i + 1 := by omega
theorem toNat0 : Int.toNat 0 = 0 := rfl
theorem winM_0 : winM Γ0 = false := Eq.trans rfl rfl
def vp := And.intro @winM_0 <| And.intro (@Option.map_none.{0, 0}) <| And.intro @toNat0 <| And.intro @castPred <| And.intro @castSucc <| And.intro @mapnn (And.intro @mapp2 (And.intro @maxB (And.intro @mapDrop (And.intro @mapTake (And.intro @mapApp (And.intro @mapSnoc (And.intro @mapSnoc2 (And.intro @mapRep (And.intro @mapSet (And.intro @isNil_nn @cast0'))))))))))
theorem ta3 : szq Tryz.prog 3 = some 1 ∧ byq Tryz.prog 3 = some 8 ∧ agq Tryz.prog 3 = some false ∧ arq Tryz.prog 3 = none := by decide +kernel
theorem tz3 : zeq Tryz.prog 3 = some [.p (.i .i64 0)] := by rfl
theorem tu3 : Tryz.prog.underlying 3 = some (.int .i64) := by rfl
def ty3 := (And.intro ta3 (And.intro tz3 tu3))
theorem ta4 : szq Tryz.prog 4 = some 1 ∧ byq Tryz.prog 4 = some 1 ∧ agq Tryz.prog 4 = some false ∧ arq Tryz.prog 4 = none ∧ isBool Tryz.prog 4 = true := by decide +kernel
theorem tz4 : zeq Tryz.prog 4 = some [.p (.b false)] := by rfl
def ty4 := (And.intro ta4 tz4)
theorem ta9 : szq Tryz.prog 9 = some 1 ∧ byq Tryz.prog 9 = some 16 ∧ agq Tryz.prog 9 = some false ∧ arq Tryz.prog 9 = none ∧ isStr Tryz.prog 9 = true := by decide +kernel
theorem tz9 : zeq Tryz.prog 9 = some [.p (.s ByteArray.empty)] := by rfl
theorem tu9 : Tryz.prog.underlying 9 = some .string := by rfl
def ty9 := (And.intro ta9 (And.intro tz9 tu9))
theorem ta22 : szq Tryz.prog 22 = some 1 ∧ byq Tryz.prog 22 = some 24 ∧ agq Tryz.prog 22 = some false ∧ elq Tryz.prog 22 = some 110 ∧ arq Tryz.prog 22 = none := by decide +kernel
theorem tz22 : zeq Tryz.prog 22 = some [.nilS] := by rfl
def ty22 := (And.intro ta22 tz22)
theorem ta24 : szq Tryz.prog 24 = some 3 ∧ byq Tryz.prog 24 = some 40 ∧ agq Tryz.prog 24 = some true ∧ arq Tryz.prog 24 = none ∧ flq Tryz.prog 24 0 = some (3, 0, 1) ∧ flq Tryz.prog 24 1 = some (3, 1, 1) ∧ flq Tryz.prog 24 2 = some (22, 2, 1) ∧ plq Tryz.prog 24 = some [(0, 1), (1, 1), (2, 1)] := by decide +kernel
theorem tz24 : zeq Tryz.prog 24 = some [.p (.i .i64 0), .p (.i .i64 0), .nilS] := by rfl
def ty24 := (And.intro ta24 tz24)
theorem ta25 : szq Tryz.prog 25 = some 1 ∧ byq Tryz.prog 25 = some 24 ∧ agq Tryz.prog 25 = some false ∧ elq Tryz.prog 25 = some 59 ∧ arq Tryz.prog 25 = none := by decide +kernel
theorem tz25 : zeq Tryz.prog 25 = some [.nilS] := by rfl
def ty25 := (And.intro ta25 tz25)
theorem ta27 : szq Tryz.prog 27 = some 2 ∧ byq Tryz.prog 27 = some 48 ∧ agq Tryz.prog 27 = some true ∧ arq Tryz.prog 27 = none ∧ flq Tryz.prog 27 0 = some (25, 0, 1) ∧ flq Tryz.prog 27 1 = some (25, 1, 1) ∧ plq Tryz.prog 27 = some [(0, 1), (1, 1)] := by decide +kernel
theorem tz27 : zeq Tryz.prog 27 = some [.nilS, .nilS] := by rfl
def ty27 := (And.intro ta27 tz27)
theorem ta28 : szq Tryz.prog 28 = some 1 ∧ byq Tryz.prog 28 = some 24 ∧ agq Tryz.prog 28 = some false ∧ elq Tryz.prog 28 = some 3 ∧ arq Tryz.prog 28 = none := by decide +kernel
theorem tz28 : zeq Tryz.prog 28 = some [.nilS] := by rfl
def ty28 := (And.intro ta28 tz28)
theorem ta30 : szq Tryz.prog 30 = some 2 ∧ byq Tryz.prog 30 = some 48 ∧ agq Tryz.prog 30 = some true ∧ arq Tryz.prog 30 = none ∧ flq Tryz.prog 30 0 = some (28, 0, 1) ∧ flq Tryz.prog 30 1 = some (25, 1, 1) ∧ plq Tryz.prog 30 = some [(0, 1), (1, 1)] := by decide +kernel
theorem tz30 : zeq Tryz.prog 30 = some [.nilS, .nilS] := by rfl
def ty30 := (And.intro ta30 tz30)
theorem ta31 : szq Tryz.prog 31 = some 1 ∧ byq Tryz.prog 31 = some 24 ∧ agq Tryz.prog 31 = some false ∧ elq Tryz.prog 31 = some 77 ∧ arq Tryz.prog 31 = none := by decide +kernel
theorem tz31 : zeq Tryz.prog 31 = some [.nilS] := by rfl
def ty31 := (And.intro ta31 tz31)
theorem ta33 : szq Tryz.prog 33 = some 3 ∧ byq Tryz.prog 33 = some 72 ∧ agq Tryz.prog 33 = some true ∧ arq Tryz.prog 33 = none ∧ flq Tryz.prog 33 0 = some (30, 0, 2) ∧ flq Tryz.prog 33 1 = some (31, 2, 1) ∧ plq Tryz.prog 33 = some [(0, 2), (2, 1)] := by decide +kernel
theorem tz33 : zeq Tryz.prog 33 = some [.nilS, .nilS, .nilS] := by rfl
def ty33 := (And.intro ta33 tz33)
theorem ta37 : szq Tryz.prog 37 = some 1 ∧ byq Tryz.prog 37 = some 8 ∧ agq Tryz.prog 37 = some false ∧ arq Tryz.prog 37 = none := by decide +kernel
theorem tz37 : zeq Tryz.prog 37 = some [.p (.i .i64 0)] := by rfl
theorem tu37 : Tryz.prog.underlying 37 = some (.int .i64) := by rfl
def ty37 := (And.intro ta37 (And.intro tz37 tu37))
theorem ta43 : szq Tryz.prog 43 = some 1 ∧ byq Tryz.prog 43 = some 24 ∧ agq Tryz.prog 43 = some false ∧ elq Tryz.prog 43 = some 31 ∧ arq Tryz.prog 43 = none := by decide +kernel
theorem tz43 : zeq Tryz.prog 43 = some [.nilS] := by rfl
def ty43 := (And.intro ta43 tz43)
theorem ta59 : szq Tryz.prog 59 = some 2 ∧ byq Tryz.prog 59 = some 16 ∧ agq Tryz.prog 59 = some true ∧ arq Tryz.prog 59 = none ∧ flq Tryz.prog 59 0 = some (3, 0, 1) ∧ flq Tryz.prog 59 1 = some (3, 1, 1) ∧ plq Tryz.prog 59 = some [(0, 1), (1, 1)] ∧ cmpq Tryz.prog 59 = some [1, 1] := by decide +kernel
theorem tz59 : zeq Tryz.prog 59 = some [.p (.i .i64 0), .p (.i .i64 0)] := by rfl
def ty59 := (And.intro ta59 tz59)
theorem ta69 : szq Tryz.prog 69 = some 2 ∧ byq Tryz.prog 69 = some 16 ∧ agq Tryz.prog 69 = some true ∧ arq Tryz.prog 69 = none ∧ flq Tryz.prog 69 0 = some (3, 0, 1) ∧ flq Tryz.prog 69 1 = some (3, 1, 1) ∧ plq Tryz.prog 69 = some [(0, 1), (1, 1)] ∧ cmpq Tryz.prog 69 = some [1, 1] := by decide +kernel
theorem tz69 : zeq Tryz.prog 69 = some [.p (.i .i64 0), .p (.i .i64 0)] := by rfl
def ty69 := (And.intro ta69 tz69)
theorem ta71 : szq Tryz.prog 71 = some 1 ∧ byq Tryz.prog 71 = some 24 ∧ agq Tryz.prog 71 = some false ∧ elq Tryz.prog 71 = some 25 ∧ arq Tryz.prog 71 = none := by decide +kernel
theorem tz71 : zeq Tryz.prog 71 = some [.nilS] := by rfl
def ty71 := (And.intro ta71 tz71)
theorem ta73 : szq Tryz.prog 73 = some 1 ∧ byq Tryz.prog 73 = some 24 ∧ agq Tryz.prog 73 = some true ∧ arq Tryz.prog 73 = none ∧ flq Tryz.prog 73 0 = some (71, 0, 1) ∧ plq Tryz.prog 73 = some [(0, 1)] := by decide +kernel
theorem tz73 : zeq Tryz.prog 73 = some [.nilS] := by rfl
def ty73 := (And.intro ta73 tz73)
theorem ta77 : szq Tryz.prog 77 = some 2 ∧ byq Tryz.prog 77 = some 16 ∧ agq Tryz.prog 77 = some true ∧ arq Tryz.prog 77 = none ∧ flq Tryz.prog 77 0 = some (3, 0, 1) ∧ flq Tryz.prog 77 1 = some (4, 1, 1) ∧ plq Tryz.prog 77 = some [(0, 1), (1, 1)] ∧ cmpq Tryz.prog 77 = some [1, 0] := by decide +kernel
theorem tz77 : zeq Tryz.prog 77 = some [.p (.i .i64 0), .p (.b false)] := by rfl
def ty77 := (And.intro ta77 tz77)
theorem ta85 : szq Tryz.prog 85 = some 3 ∧ byq Tryz.prog 85 = some 40 ∧ agq Tryz.prog 85 = some true ∧ arq Tryz.prog 85 = none ∧ flq Tryz.prog 85 0 = some (24, 0, 3) ∧ plq Tryz.prog 85 = some [(0, 3)] := by decide +kernel
theorem tz85 : zeq Tryz.prog 85 = some [.p (.i .i64 0), .p (.i .i64 0), .nilS] := by rfl
def ty85 := (And.intro ta85 tz85)
theorem ta91 : szq Tryz.prog 91 = some 1 ∧ byq Tryz.prog 91 = some 8 ∧ agq Tryz.prog 91 = some false ∧ arq Tryz.prog 91 = none := by decide +kernel
theorem tz91 : zeq Tryz.prog 91 = some [.p (.i .u64 0)] := by rfl
theorem tu91 : Tryz.prog.underlying 91 = some (.int .u64) := by rfl
def ty91 := (And.intro ta91 (And.intro tz91 tu91))
theorem ta94 : szq Tryz.prog 94 = some 5 ∧ byq Tryz.prog 94 = some 88 ∧ agq Tryz.prog 94 = some true ∧ arq Tryz.prog 94 = none ∧ flq Tryz.prog 94 0 = some (85, 0, 3) ∧ flq Tryz.prog 94 1 = some (27, 3, 2) ∧ plq Tryz.prog 94 = some [(0, 3), (3, 2)] := by decide +kernel
theorem tz94 : zeq Tryz.prog 94 = some [.p (.i .i64 0), .p (.i .i64 0), .nilS, .nilS, .nilS] := by rfl
def ty94 := (And.intro ta94 tz94)
theorem ta110 : szq Tryz.prog 110 = some 3 ∧ byq Tryz.prog 110 = some 24 ∧ agq Tryz.prog 110 = some true ∧ arq Tryz.prog 110 = none ∧ flq Tryz.prog 110 0 = some (59, 0, 2) ∧ flq Tryz.prog 110 1 = some (3, 2, 1) ∧ plq Tryz.prog 110 = some [(0, 2), (2, 1)] ∧ cmpq Tryz.prog 110 = some [1, 1, 1] := by decide +kernel
theorem tz110 : zeq Tryz.prog 110 = some [.p (.i .i64 0), .p (.i .i64 0), .p (.i .i64 0)] := by rfl
def ty110 := (And.intro ta110 tz110)
theorem ta129 : szq Tryz.prog 129 = some 1 ∧ byq Tryz.prog 129 = some 24 ∧ agq Tryz.prog 129 = some false ∧ elq Tryz.prog 129 = some 37 ∧ arq Tryz.prog 129 = none := by decide +kernel
theorem tz129 : zeq Tryz.prog 129 = some [.nilS] := by rfl
def ty129 := (And.intro ta129 tz129)
theorem ta159 : szq Tryz.prog 159 = some 2 ∧ byq Tryz.prog 159 = some 2 ∧ agq Tryz.prog 159 = some true ∧ arq Tryz.prog 159 = some (2, 4) ∧ plq Tryz.prog 159 = some [(0, 1), (1, 1)] ∧ cmpq Tryz.prog 159 = some [0, 0] := by decide +kernel
theorem tz159 : zeq Tryz.prog 159 = some [.p (.b false), .p (.b false)] := by rfl
def ty159 := (And.intro ta159 tz159)
def q3 := (And.intro ty24 (And.intro ty27 (And.intro ty33 (And.intro ty30 (And.intro ty28 (And.intro ty25 (And.intro ty3 (And.intro ty31 (And.intro ty37 (And.intro ty43 (And.intro ty22 (And.intro ty59 (And.intro ty77 (And.intro ty110 ty4))))))))))))))
def q4 := (And.intro ty24 (And.intro ty27 (And.intro ty33 (And.intro ty3 (And.intro ty30 (And.intro ty28 (And.intro ty25 (And.intro ty31 (And.intro ty37 (And.intro ty59 (And.intro ty43 (And.intro ty22 (And.intro ty77 (And.intro ty110 ty4))))))))))))))
def q5 := (And.intro ty59 (And.intro ty69 (And.intro ty28 (And.intro ty73 (And.intro ty77 (And.intro ty31 (And.intro ty37 (And.intro ty3 (And.intro ty9 (And.intro ty71 (And.intro ty4 ty25)))))))))))
def q6 := (And.intro ty24 (And.intro ty27 (And.intro ty25 (And.intro ty3 (And.intro ty22 (And.intro ty59 ty110))))))
def q7 := (And.intro ty28 ty3)
def q8 := (And.intro ty24 (And.intro ty28 (And.intro ty129 (And.intro ty37 (And.intro ty31 (And.intro ty3 (And.intro ty77 (And.intro ty22 (And.intro ty91 (And.intro ty4 (And.intro ty110 ty59)))))))))))
def q9 := (And.intro ty24 (And.intro ty22 (And.intro ty3 (And.intro ty110 ty59))))
def q10 := (And.intro ty28 ty3)
def q11 := (And.intro ty31 (And.intro ty77 (And.intro ty3 ty4)))
def q12 := (And.intro ty24 (And.intro ty27 (And.intro ty30 (And.intro ty94 (And.intro ty28 (And.intro ty25 (And.intro ty3 (And.intro ty129 (And.intro ty37 (And.intro ty85 (And.intro ty59 (And.intro ty22 (And.intro ty43 (And.intro ty110 (And.intro ty31 ty77)))))))))))))))
def q13 := (And.intro ty27 (And.intro ty25 (And.intro ty59 ty3)))
def q14 := (And.intro ty30 (And.intro ty28 (And.intro ty25 (And.intro ty3 ty59))))
def q15 := (And.intro ty24 (And.intro ty3 (And.intro ty22 ty110)))
def q16 := (And.intro ty24 (And.intro ty28 (And.intro ty3 (And.intro ty22 ty110))))
def q17 := (And.intro ty24 (And.intro ty31 (And.intro ty3 (And.intro ty77 (And.intro ty22 (And.intro ty4 (And.intro ty110 ty59)))))))
def q18 := (And.intro ty28 ty3)
def q19 := (And.intro ty28 (And.intro ty3 (And.intro ty31 (And.intro ty77 ty4))))
def q20 := (And.intro ty24 (And.intro ty27 (And.intro ty3 (And.intro ty22 (And.intro ty25 (And.intro ty110 ty59))))))
def q21 := (And.intro ty24 (And.intro ty27 (And.intro ty30 (And.intro ty28 (And.intro ty25 (And.intro ty3 (And.intro ty59 (And.intro ty22 ty110))))))))
def q22 := (And.intro ty24 (And.intro ty27 (And.intro ty30 (And.intro ty22 (And.intro ty3 (And.intro ty43 (And.intro ty31 (And.intro ty25 (And.intro ty28 (And.intro ty110 (And.intro ty77 (And.intro ty59 ty4))))))))))))
def q23 := (And.intro ty43 (And.intro ty3 (And.intro ty31 (And.intro ty77 ty4))))
def q24 := (And.intro ty24 (And.intro ty59 (And.intro ty37 (And.intro ty85 (And.intro ty129 (And.intro ty3 (And.intro ty91 (And.intro ty22 ty110))))))))
def q25 := (And.intro ty59 ty3)
def q31 := (And.intro ty24 (And.intro ty73 (And.intro ty28 (And.intro ty129 (And.intro ty37 (And.intro ty85 (And.intro ty22 (And.intro ty71 (And.intro ty3 (And.intro ty91 (And.intro ty25 (And.intro ty110 ty59))))))))))))
def q33 := (And.intro ty24 (And.intro ty22 (And.intro ty3 (And.intro ty110 ty59))))
def q34 := (And.intro ty129 (And.intro ty3 ty37))
def q35 := (And.intro ty24 (And.intro ty3 (And.intro ty22 ty110)))
def q36 := (And.intro ty3 (And.intro ty129 ty37))
def q38 := (And.intro ty24 (And.intro ty85 (And.intro ty37 (And.intro ty3 (And.intro ty22 ty110)))))
def q39 := (And.intro ty85 (And.intro ty3 (And.intro ty24 ty22)))
def q42 := (And.intro ty77 (And.intro ty3 ty4))
def q44 := (And.intro ty31 (And.intro ty3 (And.intro ty77 (And.intro ty4 ty91))))
def q45 := (And.intro ty24 (And.intro ty27 (And.intro ty94 (And.intro ty85 (And.intro ty129 (And.intro ty3 (And.intro ty22 (And.intro ty25 (And.intro ty37 (And.intro ty110 ty59))))))))))
def q46 := (And.intro ty59 ty3)
def q48 := (And.intro ty94 (And.intro ty30 (And.intro ty28 (And.intro ty3 (And.intro ty85 (And.intro ty91 (And.intro ty27 (And.intro ty25 (And.intro ty59 (And.intro ty24 ty22))))))))))
def q49 := (And.intro ty25 (And.intro ty59 ty3))
def q50 := (And.intro ty24 (And.intro ty3 (And.intro ty22 (And.intro ty110 ty59))))
def q51 := (And.intro ty24 (And.intro ty3 (And.intro ty22 ty110)))
def q52 := (And.intro ty27 (And.intro ty25 ty59))
def q53 := (And.intro ty24 (And.intro ty43 (And.intro ty22 (And.intro ty3 (And.intro ty77 (And.intro ty31 (And.intro ty110 (And.intro ty4 ty59))))))))
def q54 := (And.intro ty24 (And.intro ty27 (And.intro ty30 (And.intro ty28 (And.intro ty25 (And.intro ty3 (And.intro ty59 (And.intro ty22 ty110))))))))
def q55 := (And.intro ty85 (And.intro ty59 (And.intro ty3 (And.intro ty24 ty22))))
def q58 := (And.intro ty85 (And.intro ty24 (And.intro ty22 (And.intro ty3 (And.intro ty110 ty59)))))
def q67 := (And.intro ty25 (And.intro ty3 ty59))
def q68 := (And.intro ty85 (And.intro ty3 (And.intro ty24 (And.intro ty22 (And.intro ty110 ty59)))))
def q71 := (And.intro ty24 (And.intro ty3 (And.intro ty22 (And.intro ty129 (And.intro ty37 (And.intro ty110 ty59))))))
def q72 := (And.intro ty28 ty3)
def q73 := (And.intro ty31 (And.intro ty3 (And.intro ty77 ty4)))
def q74 := (And.intro ty27 (And.intro ty25 ty59))
def q75 := (And.intro ty59 (And.intro ty3 (And.intro ty129 ty37)))
def q76 := ty3
def q77 := (And.intro ty31 (And.intro ty3 (And.intro ty159 (And.intro ty77 ty4))))
def q78 := (And.intro ty59 ty3)
def q79 := (And.intro ty24 (And.intro ty22 (And.intro ty3 (And.intro ty110 ty59))))
def q80 := (And.intro ty27 (And.intro ty25 (And.intro ty3 ty59)))
def q81 := (And.intro ty24 (And.intro ty27 (And.intro ty28 (And.intro ty3 (And.intro ty25 (And.intro ty59 (And.intro ty22 ty110)))))))
def q82 := (And.intro ty85 (And.intro ty24 (And.intro ty22 (And.intro ty3 (And.intro ty110 ty59)))))
def q83 := (And.intro ty59 ty3)
def q84 := (And.intro ty59 ty3)
def q95 := (And.intro ty27 (And.intro ty25 (And.intro ty3 (And.intro ty129 (And.intro ty37 ty59)))))
def q96 := (And.intro ty31 (And.intro ty77 (And.intro ty3 ty4)))
def q97 := (And.intro ty24 (And.intro ty59 (And.intro ty22 (And.intro ty3 (And.intro ty110 ty28)))))
def q105 := (And.intro ty24 (And.intro ty22 (And.intro ty3 (And.intro ty28 (And.intro ty110 ty59)))))
end Go.Vm
