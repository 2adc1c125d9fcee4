import Derived.Test.YtgehfnapilmphaaGreatDoorVmBC
import Derived.Test.YtgehfnapilmphaaGreatDoorProg
set_option linter.all false
/- What the program's types are. Printed by VmFacts.lean. -/
namespace Go.Vm
open Go.Proofs
set_option maxRecDepth 20000
set_option maxHeartbeats 8000000
def Γ0 : Nat → Option (List V) := fun _ => none
abbrev Sp0 : FuncId → List V → R → Prop := Spec Tryz.prog Γ0
abbrev nn (n : Int) : V := .i .i64 n
theorem mixed : Tryz.prog.follows .mixedOrders = true := by decide +kernel
theorem wr64 {n : Int} (h1 : -9223372036854775808 ≤ n) (h2 : n ≤ 9223372036854775807) : IntKind.wrap .i64 n = n := by
  simp [IntKind.wrap, IntKind.signed, IntKind.bits] <;> (try split) <;> omega
theorem mapnn {xs : List Int} : (∀ y, y ∈ List.map nn xs → y.cells.length = 1) = True := by
  simp only [List.mem_map, eq_iff_iff, iff_true]; rintro y ⟨a, _, rfl⟩; rfl
abbrev p2 (p : Int × Int) : V := .agg [nn p.1, nn p.2]
theorem mapp2 {xs : List (Int × Int)} : (∀ y, y ∈ List.map p2 xs → y.cells.length = 2) = True := by
  simp only [List.mem_map, eq_iff_iff, iff_true]; rintro y ⟨a, _, rfl⟩; rfl
theorem maxB : maxBytes = 1099511627776 := rfl
theorem mapDrop {α : Type} {f : α → V} {xs : List α} {n : Nat} : (xs.map f).drop n = (xs.drop n).map f := by rw [List.map_drop]
theorem mapTake {α : Type} {f : α → V} {xs : List α} {n : Nat} : (xs.map f).take n = (xs.take n).map f := by rw [List.map_take]
theorem mapApp {α : Type} {f : α → V} {xs ys : List α} : xs.map f ++ ys.map f = (xs ++ ys).map f := by rw [List.map_append]
theorem mapSnoc {xs : List Int} {y : Int} : xs.map nn ++ [V.i .i64 y] = (xs ++ [y]).map nn := by rw [List.map_append]; rfl
theorem mapSnoc2 {xs : List (Int × Int)} {y z : Int} : xs.map p2 ++ [V.agg [V.i .i64 y, V.i .i64 z]] = (xs ++ [(y, z)]).map p2 := by rw [List.map_append]; rfl
theorem mapRep {n : Nat} {a : Int} : List.replicate n (V.i .i64 a) = (List.replicate n a).map nn := by rw [List.map_replicate]
theorem mapSet {xs : List Int} {n : Nat} {a : Int} : (xs.map nn).set n (V.i .i64 a) = (xs.set n a).map nn := by rw [List.map_set]
theorem isNil_nn {σ : VS} {x : Int} {xs : List Int} : isNil σ (.p (.sl ((x :: xs).map nn))) = some false := rfl
theorem cast0' : ((0 : Nat) : Int) = 0 := rfl
theorem castPred {i : Nat} : ((i : Int) - 1).toNat = i - 1 := by omega
theorem castSucc {i : Nat} : ((i : Int) + 1).toNat = i + 1 := by omega
theorem toNat0 : Int.toNat 0 = 0 := rfl
theorem winM_0 : winM Γ0 = false := Eq.trans rfl rfl
def vp := And.intro @winM_0 <| And.intro (@Option.map_none.{0, 0}) <| And.intro @toNat0 <| And.intro @castPred <| And.intro @castSucc <| And.intro @mapnn (And.intro @mapp2 (And.intro @maxB (And.intro @mapDrop (And.intro @mapTake (And.intro @mapApp (And.intro @mapSnoc (And.intro @mapSnoc2 (And.intro @mapRep (And.intro @mapSet (And.intro @isNil_nn @cast0'))))))))))
theorem ta3 : szq Tryz.prog 3 = some 1 ∧ byq Tryz.prog 3 = some 8 ∧ agq Tryz.prog 3 = some false ∧ arq Tryz.prog 3 = none := by decide +kernel
theorem tz3 : zeq Tryz.prog 3 = some [.p (.i .i64 0)] := by rfl
theorem tu3 : Tryz.prog.underlying 3 = some (.int .i64) := by rfl
def ty3 := (And.intro ta3 (And.intro tz3 tu3))
theorem ta4 : szq Tryz.prog 4 = some 1 ∧ byq Tryz.prog 4 = some 1 ∧ agq Tryz.prog 4 = some false ∧ arq Tryz.prog 4 = none ∧ isBool Tryz.prog 4 = true := by decide +kernel
theorem tz4 : zeq Tryz.prog 4 = some [.p (.b false)] := by rfl
def ty4 := (And.intro ta4 tz4)
theorem ta9 : szq Tryz.prog 9 = some 1 ∧ byq Tryz.prog 9 = some 16 ∧ agq Tryz.prog 9 = some false ∧ arq Tryz.prog 9 = none ∧ isStr Tryz.prog 9 = true := by decide +kernel
theorem tz9 : zeq Tryz.prog 9 = some [.p (.s ByteArray.empty)] := by rfl
theorem tu9 : Tryz.prog.underlying 9 = some .string := by rfl
def ty9 := (And.intro ta9 (And.intro tz9 tu9))
theorem ta22 : szq Tryz.prog 22 = some 1 ∧ byq Tryz.prog 22 = some 24 ∧ agq Tryz.prog 22 = some false ∧ elq Tryz.prog 22 = some 97 ∧ arq Tryz.prog 22 = none := by decide +kernel
theorem tz22 : zeq Tryz.prog 22 = some [.nilS] := by rfl
def ty22 := (And.intro ta22 tz22)
theorem ta24 : szq Tryz.prog 24 = some 3 ∧ byq Tryz.prog 24 = some 40 ∧ agq Tryz.prog 24 = some true ∧ arq Tryz.prog 24 = none ∧ flq Tryz.prog 24 0 = some (3, 0, 1) ∧ flq Tryz.prog 24 1 = some (3, 1, 1) ∧ flq Tryz.prog 24 2 = some (22, 2, 1) ∧ plq Tryz.prog 24 = some [(0, 1), (1, 1), (2, 1)] := by decide +kernel
theorem tz24 : zeq Tryz.prog 24 = some [.p (.i .i64 0), .p (.i .i64 0), .nilS] := by rfl
def ty24 := (And.intro ta24 tz24)
theorem ta25 : szq Tryz.prog 25 = some 1 ∧ byq Tryz.prog 25 = some 24 ∧ agq Tryz.prog 25 = some false ∧ elq Tryz.prog 25 = some 57 ∧ arq Tryz.prog 25 = none := by decide +kernel
theorem tz25 : zeq Tryz.prog 25 = some [.nilS] := by rfl
def ty25 := (And.intro ta25 tz25)
theorem ta27 : szq Tryz.prog 27 = some 1 ∧ byq Tryz.prog 27 = some 24 ∧ agq Tryz.prog 27 = some true ∧ arq Tryz.prog 27 = none ∧ flq Tryz.prog 27 0 = some (25, 0, 1) ∧ plq Tryz.prog 27 = some [(0, 1)] := by decide +kernel
theorem tz27 : zeq Tryz.prog 27 = some [.nilS] := by rfl
def ty27 := (And.intro ta27 tz27)
theorem ta28 : szq Tryz.prog 28 = some 1 ∧ byq Tryz.prog 28 = some 24 ∧ agq Tryz.prog 28 = some false ∧ elq Tryz.prog 28 = some 3 ∧ arq Tryz.prog 28 = none := by decide +kernel
theorem tz28 : zeq Tryz.prog 28 = some [.nilS] := by rfl
def ty28 := (And.intro ta28 tz28)
theorem ta30 : szq Tryz.prog 30 = some 2 ∧ byq Tryz.prog 30 = some 32 ∧ agq Tryz.prog 30 = some true ∧ arq Tryz.prog 30 = none ∧ flq Tryz.prog 30 0 = some (28, 0, 1) ∧ flq Tryz.prog 30 1 = some (3, 1, 1) ∧ plq Tryz.prog 30 = some [(0, 1), (1, 1)] := by decide +kernel
theorem tz30 : zeq Tryz.prog 30 = some [.nilS, .p (.i .i64 0)] := by rfl
def ty30 := (And.intro ta30 tz30)
theorem ta35 : szq Tryz.prog 35 = some 1 ∧ byq Tryz.prog 35 = some 8 ∧ agq Tryz.prog 35 = some false ∧ arq Tryz.prog 35 = none := by decide +kernel
theorem tz35 : zeq Tryz.prog 35 = some [.p (.i .i64 0)] := by rfl
theorem tu35 : Tryz.prog.underlying 35 = some (.int .i64) := by rfl
def ty35 := (And.intro ta35 (And.intro tz35 tu35))
theorem ta57 : szq Tryz.prog 57 = some 1 ∧ byq Tryz.prog 57 = some 24 ∧ agq Tryz.prog 57 = some false ∧ elq Tryz.prog 57 = some 59 ∧ arq Tryz.prog 57 = none := by decide +kernel
theorem tz57 : zeq Tryz.prog 57 = some [.nilS] := by rfl
def ty57 := (And.intro ta57 tz57)
theorem ta59 : szq Tryz.prog 59 = some 2 ∧ byq Tryz.prog 59 = some 16 ∧ agq Tryz.prog 59 = some true ∧ arq Tryz.prog 59 = none ∧ flq Tryz.prog 59 0 = some (3, 0, 1) ∧ flq Tryz.prog 59 1 = some (3, 1, 1) ∧ plq Tryz.prog 59 = some [(0, 1), (1, 1)] ∧ cmpq Tryz.prog 59 = some [1, 1] := by decide +kernel
theorem tz59 : zeq Tryz.prog 59 = some [.p (.i .i64 0), .p (.i .i64 0)] := by rfl
def ty59 := (And.intro ta59 tz59)
theorem ta69 : szq Tryz.prog 69 = some 2 ∧ byq Tryz.prog 69 = some 16 ∧ agq Tryz.prog 69 = some true ∧ arq Tryz.prog 69 = none ∧ flq Tryz.prog 69 0 = some (3, 0, 1) ∧ flq Tryz.prog 69 1 = some (3, 1, 1) ∧ plq Tryz.prog 69 = some [(0, 1), (1, 1)] ∧ cmpq Tryz.prog 69 = some [1, 1] := by decide +kernel
theorem tz69 : zeq Tryz.prog 69 = some [.p (.i .i64 0), .p (.i .i64 0)] := by rfl
def ty69 := (And.intro ta69 tz69)
theorem ta73 : szq Tryz.prog 73 = some 2 ∧ byq Tryz.prog 73 = some 16 ∧ agq Tryz.prog 73 = some true ∧ arq Tryz.prog 73 = none ∧ flq Tryz.prog 73 0 = some (3, 0, 1) ∧ flq Tryz.prog 73 1 = some (4, 1, 1) ∧ plq Tryz.prog 73 = some [(0, 1), (1, 1)] ∧ cmpq Tryz.prog 73 = some [1, 0] := by decide +kernel
theorem tz73 : zeq Tryz.prog 73 = some [.p (.i .i64 0), .p (.b false)] := by rfl
def ty73 := (And.intro ta73 tz73)
theorem ta74 : szq Tryz.prog 74 = some 1 ∧ byq Tryz.prog 74 = some 24 ∧ agq Tryz.prog 74 = some false ∧ elq Tryz.prog 74 = some 73 ∧ arq Tryz.prog 74 = none := by decide +kernel
theorem tz74 : zeq Tryz.prog 74 = some [.nilS] := by rfl
def ty74 := (And.intro ta74 tz74)
theorem ta82 : szq Tryz.prog 82 = some 1 ∧ byq Tryz.prog 82 = some 8 ∧ agq Tryz.prog 82 = some false ∧ arq Tryz.prog 82 = none := by decide +kernel
theorem tz82 : zeq Tryz.prog 82 = some [.p (.i .u64 0)] := by rfl
theorem tu82 : Tryz.prog.underlying 82 = some (.int .u64) := by rfl
def ty82 := (And.intro ta82 (And.intro tz82 tu82))
theorem ta84 : szq Tryz.prog 84 = some 3 ∧ byq Tryz.prog 84 = some 40 ∧ agq Tryz.prog 84 = some true ∧ arq Tryz.prog 84 = none ∧ flq Tryz.prog 84 0 = some (24, 0, 3) ∧ plq Tryz.prog 84 = some [(0, 3)] := by decide +kernel
theorem tz84 : zeq Tryz.prog 84 = some [.p (.i .i64 0), .p (.i .i64 0), .nilS] := by rfl
def ty84 := (And.intro ta84 tz84)
theorem ta97 : szq Tryz.prog 97 = some 3 ∧ byq Tryz.prog 97 = some 24 ∧ agq Tryz.prog 97 = some true ∧ arq Tryz.prog 97 = none ∧ flq Tryz.prog 97 0 = some (59, 0, 2) ∧ flq Tryz.prog 97 1 = some (3, 2, 1) ∧ plq Tryz.prog 97 = some [(0, 2), (2, 1)] ∧ cmpq Tryz.prog 97 = some [1, 1, 1] := by decide +kernel
theorem tz97 : zeq Tryz.prog 97 = some [.p (.i .i64 0), .p (.i .i64 0), .p (.i .i64 0)] := by rfl
def ty97 := (And.intro ta97 tz97)
theorem ta123 : szq Tryz.prog 123 = some 1 ∧ byq Tryz.prog 123 = some 24 ∧ agq Tryz.prog 123 = some false ∧ elq Tryz.prog 123 = some 35 ∧ arq Tryz.prog 123 = none := by decide +kernel
theorem tz123 : zeq Tryz.prog 123 = some [.nilS] := by rfl
def ty123 := (And.intro ta123 tz123)
def q3 := (And.intro ty24 (And.intro ty27 (And.intro ty30 (And.intro ty28 (And.intro ty3 (And.intro ty25 (And.intro ty35 (And.intro ty22 (And.intro ty57 (And.intro ty97 ty59))))))))))
def q4 := (And.intro ty24 (And.intro ty27 (And.intro ty30 (And.intro ty3 (And.intro ty28 (And.intro ty35 (And.intro ty25 (And.intro ty57 (And.intro ty22 (And.intro ty59 ty97))))))))))
def q5 := (And.intro ty59 (And.intro ty69 (And.intro ty28 (And.intro ty27 (And.intro ty73 (And.intro ty74 (And.intro ty35 (And.intro ty3 (And.intro ty9 (And.intro ty25 (And.intro ty4 ty57)))))))))))
def q6 := (And.intro ty24 (And.intro ty22 (And.intro ty3 (And.intro ty97 ty59))))
def q7 := (And.intro ty27 (And.intro ty25 (And.intro ty3 (And.intro ty57 ty59))))
def q8 := (And.intro ty28 ty3)
def q9 := (And.intro ty24 (And.intro ty27 (And.intro ty25 (And.intro ty22 (And.intro ty3 (And.intro ty123 (And.intro ty35 (And.intro ty57 (And.intro ty97 ty59)))))))))
def q10 := (And.intro ty24 (And.intro ty22 (And.intro ty3 (And.intro ty97 ty59))))
def q11 := (And.intro ty27 (And.intro ty25 (And.intro ty3 (And.intro ty57 ty59))))
def q12 := (And.intro ty24 (And.intro ty27 (And.intro ty123 (And.intro ty35 (And.intro ty3 (And.intro ty25 (And.intro ty57 (And.intro ty84 (And.intro ty82 (And.intro ty28 (And.intro ty22 (And.intro ty59 ty97))))))))))))
def q13 := (And.intro ty24 (And.intro ty27 (And.intro ty28 (And.intro ty123 (And.intro ty35 (And.intro ty84 (And.intro ty22 (And.intro ty25 (And.intro ty3 (And.intro ty82 (And.intro ty57 (And.intro ty97 ty59))))))))))))
def q14 := (And.intro ty28 ty3)
def q15 := (And.intro ty24 (And.intro ty3 (And.intro ty22 ty97)))
def q16 := (And.intro ty24 (And.intro ty28 (And.intro ty3 (And.intro ty22 ty97))))
def q17 := (And.intro ty27 (And.intro ty25 (And.intro ty3 (And.intro ty57 ty59))))
def q18 := (And.intro ty24 (And.intro ty27 (And.intro ty22 (And.intro ty3 (And.intro ty28 (And.intro ty97 (And.intro ty57 (And.intro ty59 ty25))))))))
def q19 := (And.intro ty24 (And.intro ty27 (And.intro ty25 (And.intro ty22 (And.intro ty3 (And.intro ty57 (And.intro ty97 ty59)))))))
def q21 := (And.intro ty28 ty3)
def q22 := (And.intro ty24 (And.intro ty27 (And.intro ty3 (And.intro ty22 (And.intro ty25 (And.intro ty57 (And.intro ty97 (And.intro ty28 ty59))))))))
def q23 := (And.intro ty24 (And.intro ty27 (And.intro ty3 (And.intro ty22 (And.intro ty25 (And.intro ty97 ty57))))))
def q24 := (And.intro ty57 (And.intro ty3 ty59))
def q32 := (And.intro ty123 (And.intro ty3 ty35))
def q33 := (And.intro ty24 (And.intro ty3 (And.intro ty22 ty97)))
def q35 := (And.intro ty57 (And.intro ty3 (And.intro ty59 (And.intro ty123 ty35))))
def q36 := (And.intro ty57 (And.intro ty59 ty3))
def q38 := (And.intro ty84 (And.intro ty3 (And.intro ty24 (And.intro ty22 (And.intro ty97 ty59)))))
def q40 := (And.intro ty59 ty3)
def q41 := (And.intro ty3 (And.intro ty123 ty35))
def q42 := (And.intro ty84 (And.intro ty28 (And.intro ty3 (And.intro ty82 (And.intro ty123 (And.intro ty35 (And.intro ty24 ty22)))))))
def q44 := (And.intro ty57 (And.intro ty3 ty59))
def q45 := (And.intro ty24 (And.intro ty3 (And.intro ty22 (And.intro ty97 ty59))))
def q46 := (And.intro ty24 (And.intro ty3 (And.intro ty22 ty97)))
def q47 := (And.intro ty24 (And.intro ty22 (And.intro ty3 (And.intro ty97 ty59))))
def q48 := (And.intro ty57 (And.intro ty3 ty59))
def q50 := (And.intro ty57 (And.intro ty3 ty59))
def q51 := (And.intro ty84 (And.intro ty3 (And.intro ty24 ty22)))
def q57 := (And.intro ty84 (And.intro ty24 (And.intro ty22 (And.intro ty3 (And.intro ty97 ty59)))))
def q71 := (And.intro ty24 (And.intro ty3 (And.intro ty22 (And.intro ty123 (And.intro ty35 (And.intro ty97 ty59))))))
def q72 := (And.intro ty59 (And.intro ty3 (And.intro ty123 ty35)))
def q73 := (And.intro ty57 (And.intro ty3 ty59))
def q74 := (And.intro ty84 (And.intro ty24 (And.intro ty22 (And.intro ty3 (And.intro ty97 (And.intro ty82 ty59))))))
def q75 := (And.intro ty24 (And.intro ty22 (And.intro ty3 (And.intro ty97 ty59))))
end Go.Vm
