import Derived.Test.YtbibfopgepkifaaVmBC
import Derived.Test.YtbibfopgepkifaaProg
set_option linter.all false
/- What the program's types are. Printed by VmFacts.lean. -/
namespace Go.Vm
open Go.Proofs
set_option maxRecDepth 20000
set_option maxHeartbeats 8000000
def Γ0 : Nat → Option (List V) := fun _ => none
abbrev Sp0 : FuncId → List V → R → Prop := Spec Try.prog Γ0
abbrev nn (n : Int) : V := .i .i64 n
theorem mixed : Try.prog.follows .mixedOrders = true := by decide +kernel
theorem wr64 {n : Int} (h1 : -9223372036854775808 ≤ n) (h2 : n ≤ 9223372036854775807) : IntKind.wrap .i64 n = n := by
  simp [IntKind.wrap, IntKind.signed, IntKind.bits] <;> (try split) <;> omega
theorem mapnn {xs : List Int} : (∀ y, y ∈ List.map nn xs → y.cells.length = 1) = True := by
  simp only [List.mem_map, eq_iff_iff, iff_true]; rintro y ⟨a, _, rfl⟩; rfl
abbrev p2 (p : Int × Int) : V := .agg [nn p.1, nn p.2]
theorem mapp2 {xs : List (Int × Int)} : (∀ y, y ∈ List.map p2 xs → y.cells.length = 2) = True := by
  simp only [List.mem_map, eq_iff_iff, iff_true]; rintro y ⟨a, _, rfl⟩; rfl
theorem maxB : maxBytes = 1099511627776 := rfl
theorem mapDrop {α : Type} {f : α → V} {xs : List α} {n : Nat} : (xs.map f).drop n = (xs.drop n).map f := by rw [List.map_drop]
theorem mapTake {α : Type} {f : α → V} {xs : List α} {n : Nat} : (xs.map f).take n = (xs.take n).map f := by rw [List.map_take]
theorem mapApp {α : Type} {f : α → V} {xs ys : List α} : xs.map f ++ ys.map f = (xs ++ ys).map f := by rw [List.map_append]
theorem mapSnoc {xs : List Int} {y : Int} : xs.map nn ++ [V.i .i64 y] = (xs ++ [y]).map nn := by rw [List.map_append]; rfl
theorem mapSnoc2 {xs : List (Int × Int)} {y z : Int} : xs.map p2 ++ [V.agg [V.i .i64 y, V.i .i64 z]] = (xs ++ [(y, z)]).map p2 := by rw [List.map_append]; rfl
theorem mapRep {n : Nat} {a : Int} : List.replicate n (V.i .i64 a) = (List.replicate n a).map nn := by rw [List.map_replicate]
theorem mapSet {xs : List Int} {n : Nat} {a : Int} : (xs.map nn).set n (V.i .i64 a) = (xs.set n a).map nn := by rw [List.map_set]
theorem isNil_nn {σ : VS} {x : Int} {xs : List Int} : isNil σ (.p (.sl ((x :: xs).map nn))) = some false := rfl
theorem cast0' : ((0 : Nat) : Int) = 0 := rfl
theorem castPred {i : Nat} : ((i : Int) - 1).toNat = i - 1 := by omega
theorem castSucc {i : Nat} : ((i : Int) + 1).toNat = i + 1 := by omega
theorem toNat0 : Int.toNat 0 = 0 := rfl
def vp := And.intro @toNat0 <| And.intro @castPred <| And.intro @castSucc <| And.intro @mapnn (And.intro @mapp2 (And.intro @maxB (And.intro @mapDrop (And.intro @mapTake (And.intro @mapApp (And.intro @mapSnoc (And.intro @mapSnoc2 (And.intro @mapRep (And.intro @mapSet (And.intro @isNil_nn @cast0'))))))))))
theorem ta3 : szq Try.prog 3 = some 1 ∧ byq Try.prog 3 = some 8 ∧ agq Try.prog 3 = some false ∧ arq Try.prog 3 = none := by decide +kernel
theorem tz3 : zeq Try.prog 3 = some [.p (.i .i64 0)] := by rfl
theorem tu3 : Try.prog.underlying 3 = some (.int .i64) := by rfl
def ty3 := (And.intro ta3 (And.intro tz3 tu3))
theorem ta5 : szq Try.prog 5 = some 1 ∧ byq Try.prog 5 = some 1 ∧ agq Try.prog 5 = some false ∧ arq Try.prog 5 = none := by decide +kernel
theorem tz5 : zeq Try.prog 5 = some [.p (.i .u8 0)] := by rfl
theorem tu5 : Try.prog.underlying 5 = some (.int .u8) := by rfl
def ty5 := (And.intro ta5 (And.intro tz5 tu5))
theorem ta9 : szq Try.prog 9 = some 1 ∧ byq Try.prog 9 = some 16 ∧ agq Try.prog 9 = some false ∧ arq Try.prog 9 = none ∧ isStr Try.prog 9 = true := by decide +kernel
theorem tz9 : zeq Try.prog 9 = some [.p (.s ByteArray.empty)] := by rfl
theorem tu9 : Try.prog.underlying 9 = some .string := by rfl
def ty9 := (And.intro ta9 (And.intro tz9 tu9))
theorem ta23 : szq Try.prog 23 = some 2 ∧ byq Try.prog 23 = some 16 ∧ agq Try.prog 23 = some true ∧ arq Try.prog 23 = none ∧ flq Try.prog 23 0 = some (3, 0, 1) ∧ flq Try.prog 23 1 = some (3, 1, 1) ∧ plq Try.prog 23 = some [(0, 1), (1, 1)] ∧ cmpq Try.prog 23 = some [1, 1] := by decide +kernel
theorem tz23 : zeq Try.prog 23 = some [.p (.i .i64 0), .p (.i .i64 0)] := by rfl
def ty23 := (And.intro ta23 tz23)
theorem ta24 : szq Try.prog 24 = some 1 ∧ byq Try.prog 24 = some 24 ∧ agq Try.prog 24 = some false ∧ elq Try.prog 24 = some 133 ∧ arq Try.prog 24 = none := by decide +kernel
theorem tz24 : zeq Try.prog 24 = some [.nilS] := by rfl
def ty24 := (And.intro ta24 tz24)
theorem ta26 : szq Try.prog 26 = some 5 ∧ byq Try.prog 26 = some 56 ∧ agq Try.prog 26 = some true ∧ arq Try.prog 26 = none ∧ flq Try.prog 26 0 = some (23, 0, 2) ∧ flq Try.prog 26 1 = some (23, 2, 2) ∧ flq Try.prog 26 2 = some (24, 4, 1) ∧ plq Try.prog 26 = some [(0, 2), (2, 2), (4, 1)] := by decide +kernel
theorem tz26 : zeq Try.prog 26 = some [.p (.i .i64 0), .p (.i .i64 0), .p (.i .i64 0), .p (.i .i64 0), .nilS] := by rfl
def ty26 := (And.intro ta26 tz26)
theorem ta30 : szq Try.prog 30 = some 1 ∧ byq Try.prog 30 = some 8 ∧ agq Try.prog 30 = some false ∧ arq Try.prog 30 = none := by decide +kernel
theorem tz30 : zeq Try.prog 30 = some [.p (.i .i64 0)] := by rfl
theorem tu30 : Try.prog.underlying 30 = some (.int .i64) := by rfl
def ty30 := (And.intro ta30 (And.intro tz30 tu30))
theorem ta35 : szq Try.prog 35 = some 2 ∧ byq Try.prog 35 = some 16 ∧ agq Try.prog 35 = some true ∧ arq Try.prog 35 = none ∧ flq Try.prog 35 0 = some (3, 0, 1) ∧ flq Try.prog 35 1 = some (3, 1, 1) ∧ plq Try.prog 35 = some [(0, 1), (1, 1)] ∧ cmpq Try.prog 35 = some [1, 1] := by decide +kernel
theorem tz35 : zeq Try.prog 35 = some [.p (.i .i64 0), .p (.i .i64 0)] := by rfl
def ty35 := (And.intro ta35 tz35)
theorem ta37 : szq Try.prog 37 = some 4 ∧ byq Try.prog 37 = some 32 ∧ agq Try.prog 37 = some true ∧ arq Try.prog 37 = none ∧ flq Try.prog 37 0 = some (35, 0, 2) ∧ flq Try.prog 37 1 = some (35, 2, 2) ∧ plq Try.prog 37 = some [(0, 2), (2, 2)] ∧ cmpq Try.prog 37 = some [1, 1, 1, 1] := by decide +kernel
theorem tz37 : zeq Try.prog 37 = some [.p (.i .i64 0), .p (.i .i64 0), .p (.i .i64 0), .p (.i .i64 0)] := by rfl
def ty37 := (And.intro ta37 tz37)
theorem ta40 : szq Try.prog 40 = some 8 ∧ byq Try.prog 40 = some 64 ∧ agq Try.prog 40 = some true ∧ arq Try.prog 40 = some (2, 37) ∧ plq Try.prog 40 = some [(0, 4), (4, 4)] := by decide +kernel
theorem tz40 : zeq Try.prog 40 = some [.p (.i .i64 0), .p (.i .i64 0), .p (.i .i64 0), .p (.i .i64 0), .p (.i .i64 0), .p (.i .i64 0), .p (.i .i64 0), .p (.i .i64 0)] := by rfl
def ty40 := (And.intro ta40 tz40)
theorem ta51 : szq Try.prog 51 = some 1 ∧ byq Try.prog 51 = some 24 ∧ agq Try.prog 51 = some false ∧ elq Try.prog 51 = some 181 ∧ arq Try.prog 51 = none := by decide +kernel
theorem tz51 : zeq Try.prog 51 = some [.nilS] := by rfl
def ty51 := (And.intro ta51 tz51)
theorem ta53 : szq Try.prog 53 = some 6 ∧ byq Try.prog 53 = some 64 ∧ agq Try.prog 53 = some true ∧ arq Try.prog 53 = none ∧ flq Try.prog 53 0 = some (51, 0, 1) ∧ flq Try.prog 53 1 = some (35, 1, 2) ∧ flq Try.prog 53 2 = some (35, 3, 2) ∧ flq Try.prog 53 3 = some (3, 5, 1) ∧ plq Try.prog 53 = some [(0, 1), (1, 2), (3, 2), (5, 1)] := by decide +kernel
theorem tz53 : zeq Try.prog 53 = some [.nilS, .p (.i .i64 0), .p (.i .i64 0), .p (.i .i64 0), .p (.i .i64 0), .p (.i .i64 0)] := by rfl
def ty53 := (And.intro ta53 tz53)
theorem ta55 : szq Try.prog 55 = some 2 ∧ byq Try.prog 55 = some 16 ∧ agq Try.prog 55 = some true ∧ arq Try.prog 55 = none ∧ flq Try.prog 55 0 = some (3, 0, 1) ∧ flq Try.prog 55 1 = some (3, 1, 1) ∧ plq Try.prog 55 = some [(0, 1), (1, 1)] ∧ cmpq Try.prog 55 = some [1, 1] := by decide +kernel
theorem tz55 : zeq Try.prog 55 = some [.p (.i .i64 0), .p (.i .i64 0)] := by rfl
def ty55 := (And.intro ta55 tz55)
theorem ta56 : szq Try.prog 56 = some 3 ∧ byq Try.prog 56 = some 24 ∧ agq Try.prog 56 = some true ∧ arq Try.prog 56 = some (3, 3) ∧ plq Try.prog 56 = some [(0, 1), (1, 1), (2, 1)] := by decide +kernel
theorem tz56 : zeq Try.prog 56 = some [.p (.i .i64 0), .p (.i .i64 0), .p (.i .i64 0)] := by rfl
def ty56 := (And.intro ta56 tz56)
theorem ta77 : szq Try.prog 77 = some 1 ∧ byq Try.prog 77 = some 24 ∧ agq Try.prog 77 = some false ∧ elq Try.prog 77 = some 178 ∧ arq Try.prog 77 = none := by decide +kernel
theorem tz77 : zeq Try.prog 77 = some [.nilS] := by rfl
def ty77 := (And.intro ta77 tz77)
theorem ta79 : szq Try.prog 79 = some 2 ∧ byq Try.prog 79 = some 40 ∧ agq Try.prog 79 = some true ∧ arq Try.prog 79 = none ∧ flq Try.prog 79 0 = some (9, 0, 1) ∧ flq Try.prog 79 1 = some (77, 1, 1) ∧ plq Try.prog 79 = some [(0, 1), (1, 1)] := by decide +kernel
theorem tz79 : zeq Try.prog 79 = some [.p (.s ByteArray.empty), .nilS] := by rfl
def ty79 := (And.intro ta79 tz79)
theorem ta133 : szq Try.prog 133 = some 3 ∧ byq Try.prog 133 = some 24 ∧ agq Try.prog 133 = some true ∧ arq Try.prog 133 = none ∧ flq Try.prog 133 0 = some (3, 0, 1) ∧ flq Try.prog 133 1 = some (23, 1, 2) ∧ plq Try.prog 133 = some [(0, 1), (1, 2)] ∧ cmpq Try.prog 133 = some [1, 1, 1] := by decide +kernel
theorem tz133 : zeq Try.prog 133 = some [.p (.i .i64 0), .p (.i .i64 0), .p (.i .i64 0)] := by rfl
def ty133 := (And.intro ta133 tz133)
theorem ta134 : szq Try.prog 134 = some 1 ∧ byq Try.prog 134 = some 24 ∧ agq Try.prog 134 = some false ∧ elq Try.prog 134 = some 3 ∧ arq Try.prog 134 = none := by decide +kernel
theorem tz134 : zeq Try.prog 134 = some [.nilS] := by rfl
def ty134 := (And.intro ta134 tz134)
theorem ta159 : szq Try.prog 159 = some 1 ∧ byq Try.prog 159 = some 24 ∧ agq Try.prog 159 = some false ∧ elq Try.prog 159 = some 181 ∧ arq Try.prog 159 = none := by decide +kernel
theorem tz159 : zeq Try.prog 159 = some [.nilS] := by rfl
def ty159 := (And.intro ta159 tz159)
theorem ta161 : szq Try.prog 161 = some 7 ∧ byq Try.prog 161 = some 88 ∧ agq Try.prog 161 = some true ∧ arq Try.prog 161 = none ∧ flq Try.prog 161 0 = some (53, 0, 6) ∧ flq Try.prog 161 1 = some (159, 6, 1) ∧ plq Try.prog 161 = some [(0, 6), (6, 1)] := by decide +kernel
theorem tz161 : zeq Try.prog 161 = some [.nilS, .p (.i .i64 0), .p (.i .i64 0), .p (.i .i64 0), .p (.i .i64 0), .p (.i .i64 0), .nilS] := by rfl
def ty161 := (And.intro ta161 tz161)
theorem ta165 : szq Try.prog 165 = some 4 ∧ byq Try.prog 165 = some 32 ∧ agq Try.prog 165 = some true ∧ arq Try.prog 165 = some (2, 35) ∧ plq Try.prog 165 = some [(0, 2), (2, 2)] := by decide +kernel
theorem tz165 : zeq Try.prog 165 = some [.p (.i .i64 0), .p (.i .i64 0), .p (.i .i64 0), .p (.i .i64 0)] := by rfl
def ty165 := (And.intro ta165 tz165)
theorem ta178 : szq Try.prog 178 = some 2 ∧ byq Try.prog 178 = some 16 ∧ agq Try.prog 178 = some true ∧ arq Try.prog 178 = none ∧ flq Try.prog 178 0 = some (3, 0, 1) ∧ flq Try.prog 178 1 = some (3, 1, 1) ∧ plq Try.prog 178 = some [(0, 1), (1, 1)] ∧ cmpq Try.prog 178 = some [1, 1] := by decide +kernel
theorem tz178 : zeq Try.prog 178 = some [.p (.i .i64 0), .p (.i .i64 0)] := by rfl
def ty178 := (And.intro ta178 tz178)
theorem ta181 : szq Try.prog 181 = some 2 ∧ byq Try.prog 181 = some 16 ∧ agq Try.prog 181 = some true ∧ arq Try.prog 181 = none ∧ flq Try.prog 181 0 = some (3, 0, 1) ∧ flq Try.prog 181 1 = some (3, 1, 1) ∧ plq Try.prog 181 = some [(0, 1), (1, 1)] ∧ cmpq Try.prog 181 = some [1, 1] := by decide +kernel
theorem tz181 : zeq Try.prog 181 = some [.p (.i .i64 0), .p (.i .i64 0)] := by rfl
def ty181 := (And.intro ta181 tz181)
theorem ta192 : szq Try.prog 192 = some 1 ∧ byq Try.prog 192 = some 24 ∧ agq Try.prog 192 = some false ∧ elq Try.prog 192 = some 30 ∧ arq Try.prog 192 = none := by decide +kernel
theorem tz192 : zeq Try.prog 192 = some [.nilS] := by rfl
def ty192 := (And.intro ta192 tz192)
theorem ta216 : szq Try.prog 216 = some 1 ∧ byq Try.prog 216 = some 24 ∧ agq Try.prog 216 = some false ∧ elq Try.prog 216 = some 5 ∧ arq Try.prog 216 = none := by decide +kernel
theorem tz216 : zeq Try.prog 216 = some [.nilS] := by rfl
theorem tu216 : Try.prog.underlying 216 = some (.slice 5) := by rfl
def ty216 := (And.intro ta216 (And.intro tz216 tu216))
def q3 := (And.intro ty26 (And.intro ty3 (And.intro ty24 (And.intro ty37 (And.intro ty40 (And.intro ty30 (And.intro ty23 (And.intro ty133 ty35))))))))
def q4 := (And.intro ty53 (And.intro ty55 (And.intro ty56 (And.intro ty3 (And.intro ty30 (And.intro ty51 (And.intro ty35 ty181)))))))
def q5 := (And.intro ty53 (And.intro ty55 (And.intro ty35 (And.intro ty3 (And.intro ty30 (And.intro ty51 ty181))))))
def q6 := (And.intro ty53 (And.intro ty55 (And.intro ty79 (And.intro ty3 (And.intro ty35 (And.intro ty30 (And.intro ty51 (And.intro ty9 (And.intro ty77 (And.intro ty181 ty178))))))))))
def q23 := (And.intro ty53 (And.intro ty51 (And.intro ty3 (And.intro ty35 ty181))))
def q25 := (And.intro ty53 (And.intro ty51 (And.intro ty35 (And.intro ty3 ty181))))
def q26 := (And.intro ty53 (And.intro ty51 (And.intro ty35 (And.intro ty3 ty181))))
def q27 := (And.intro ty53 (And.intro ty55 (And.intro ty3 (And.intro ty51 (And.intro ty35 ty181)))))
def q30 := (And.intro ty53 (And.intro ty51 (And.intro ty30 (And.intro ty3 (And.intro ty35 (And.intro ty165 (And.intro ty192 ty181)))))))
def q33 := (And.intro ty53 (And.intro ty51 (And.intro ty3 (And.intro ty35 ty181))))
def q37 := (And.intro ty79 (And.intro ty77 (And.intro ty3 (And.intro ty9 ty178))))
def q38 := (And.intro ty79 (And.intro ty9 (And.intro ty77 ty178)))
def q39 := (And.intro ty53 (And.intro ty79 (And.intro ty55 (And.intro ty161 (And.intro ty192 (And.intro ty30 (And.intro ty3 (And.intro ty134 (And.intro ty51 (And.intro ty35 (And.intro ty9 (And.intro ty77 (And.intro ty159 (And.intro ty181 ty178))))))))))))))
def q40 := (And.intro ty79 (And.intro ty9 (And.intro ty77 (And.intro ty178 ty3))))
def q41 := (And.intro ty53 (And.intro ty55 (And.intro ty79 (And.intro ty35 (And.intro ty161 (And.intro ty30 (And.intro ty3 (And.intro ty51 (And.intro ty9 (And.intro ty77 (And.intro ty159 (And.intro ty181 ty178))))))))))))
def q42 := (And.intro ty53 (And.intro ty55 (And.intro ty79 (And.intro ty161 (And.intro ty30 (And.intro ty51 (And.intro ty35 (And.intro ty3 (And.intro ty9 (And.intro ty77 (And.intro ty159 (And.intro ty181 ty178))))))))))))
def q43 := (And.intro ty35 ty3)
def q44 := (And.intro ty35 ty3)
def q45 := (And.intro ty35 ty3)
def q47 := (And.intro ty79 (And.intro ty9 (And.intro ty77 (And.intro ty3 ty178))))
def q51 := (And.intro ty51 (And.intro ty3 (And.intro ty192 (And.intro ty30 ty181))))
def q52 := (And.intro ty51 (And.intro ty181 ty3))
def q55 := (And.intro ty51 (And.intro ty3 ty181))
def q79 := (And.intro ty192 (And.intro ty3 ty30))
def q87 := (And.intro ty53 (And.intro ty55 (And.intro ty161 (And.intro ty192 (And.intro ty51 (And.intro ty35 (And.intro ty3 (And.intro ty159 (And.intro ty30 ty181)))))))))
def q89 := (And.intro ty55 ty3)
def q91 := (And.intro ty35 ty3)
def q92 := (And.intro ty35 ty3)
def q93 := (And.intro ty161 (And.intro ty53 (And.intro ty35 (And.intro ty3 (And.intro ty159 (And.intro ty51 ty181))))))
def q94 := (And.intro ty161 (And.intro ty53 (And.intro ty35 (And.intro ty3 (And.intro ty159 (And.intro ty51 ty181))))))
def q96 := (And.intro ty35 ty3)
def q97 := (And.intro ty3 (And.intro ty159 ty181))
def q98 := (And.intro ty35 ty3)
def q101 := (And.intro ty53 (And.intro ty161 (And.intro ty51 (And.intro ty35 (And.intro ty3 (And.intro ty159 ty181))))))
def q102 := (And.intro ty79 (And.intro ty9 (And.intro ty77 (And.intro ty3 (And.intro ty192 (And.intro ty30 ty178))))))
def q104 := (And.intro ty53 (And.intro ty55 (And.intro ty79 (And.intro ty161 (And.intro ty192 (And.intro ty51 (And.intro ty35 (And.intro ty3 (And.intro ty9 (And.intro ty77 (And.intro ty159 (And.intro ty30 (And.intro ty181 ty178)))))))))))))
def q105 := (And.intro ty161 (And.intro ty79 (And.intro ty77 (And.intro ty3 (And.intro ty178 (And.intro ty159 (And.intro ty53 (And.intro ty9 (And.intro ty181 (And.intro ty51 ty35))))))))))
def q106 := (And.intro ty161 (And.intro ty55 (And.intro ty79 (And.intro ty3 (And.intro ty56 (And.intro ty53 (And.intro ty134 (And.intro ty159 (And.intro ty9 (And.intro ty77 (And.intro ty51 (And.intro ty35 (And.intro ty181 ty178)))))))))))))
def q108 := (And.intro ty9 (And.intro ty3 ty5))
def q117 := (And.intro ty9 (And.intro ty216 (And.intro ty3 ty5)))
def q135 := (And.intro ty161 (And.intro ty55 (And.intro ty3 (And.intro ty53 (And.intro ty159 (And.intro ty51 (And.intro ty35 ty181)))))))
def q137 := (And.intro ty35 ty3)
def q138 := (And.intro ty159 (And.intro ty3 ty181))
def q139 := (And.intro ty181 ty3)
def q141 := (And.intro ty178 ty3)
def q142 := (And.intro ty134 ty3)
def q143 := (And.intro ty161 (And.intro ty79 (And.intro ty3 (And.intro ty53 (And.intro ty159 (And.intro ty9 (And.intro ty77 (And.intro ty51 (And.intro ty35 (And.intro ty181 ty178))))))))))
end Go.Vm
