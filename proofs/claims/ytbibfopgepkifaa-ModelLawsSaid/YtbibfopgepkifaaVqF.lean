import Derived.Test.YtbibfopgepkifaaVmBC
import Derived.Test.YtbibfopgepkifaaProg
set_option linter.all false
/- What the program's types are. Printed by VmFacts.lean. -/
namespace Go.Vm
open Go.Proofs
set_option maxRecDepth 20000
set_option maxHeartbeats 8000000
def Γ0 : Nat → Option (List V) := fun _ => none
abbrev Sp0 : FuncId → List V → R → Prop := Spec Try.prog Γ0
abbrev nn (n : Int) : V := .i .i64 n
theorem mixed : Try.prog.follows .mixedOrders = true := by decide +kernel
theorem wr64 {n : Int} (h1 : -9223372036854775808 ≤ n) (h2 : n ≤ 9223372036854775807) : IntKind.wrap .i64 n = n := by
  simp [IntKind.wrap, IntKind.signed, IntKind.bits] <;> (try split) <;> omega
theorem mapnn {xs : List Int} : (∀ y, y ∈ List.map nn xs → y.cells.length = 1) = True := by
  simp only [List.mem_map, eq_iff_iff, iff_true]; rintro y ⟨a, _, rfl⟩; rfl
abbrev p2 (p : Int × Int) : V := .agg [nn p.1, nn p.2]
theorem mapp2 {xs : List (Int × Int)} : (∀ y, y ∈ List.map p2 xs → y.cells.length = 2) = True := by
  simp only [List.mem_map, eq_iff_iff, iff_true]; rintro y ⟨a, _, rfl⟩; rfl
theorem maxB : maxBytes = 1099511627776 := rfl
theorem mapDrop {α : Type} {f : α → V} {xs : List α} {n : Nat} : (xs.map f).drop n = (xs.drop n).map f := by rw [List.map_drop]
theorem mapTake {α : Type} {f : α → V} {xs : List α} {n : Nat} : (xs.map f).take n = (xs.take n).map f := by rw [List.map_take]
theorem mapApp {α : Type} {f : α → V} {xs ys : List α} : xs.map f ++ ys.map f = (xs ++ ys).map f := by rw [List.map_append]
theorem mapSnoc {xs : List Int} {y : Int} : xs.map nn ++ [V.i .i64 y] = (xs ++ [y]).map nn := by rw [List.map_append]; rfl
theorem mapSnoc2 {xs : List (Int × Int)} {y z : Int} : xs.map p2 ++ [V.agg [V.i .i64 y, V.i .i64 z]] = (xs ++ [(y, z)]).map p2 := by rw [List.map_append]; rfl
theorem mapRep {n : Nat} {a : Int} : List.replicate n (V.i .i64 a) = (List.replicate n a).map nn := by rw [List.map_replicate]
theorem mapSet {xs : List Int} {n : Nat} {a : Int} : (xs.map nn).set n (V.i .i64 a) = (xs.set n a).map nn := by rw [List.map_set]
theorem isNil_nn {σ : VS} {x : Int} {xs : List Int} : isNil σ (.p (.sl ((x :: xs).map nn))) = some false := rfl
theorem cast0' : ((0 : Nat) : Int) = 0 := rfl
theorem castPred {i : Nat} : ((i : Int) - 1).toNat = i - 1 := by omega
theorem castSucc {i : Nat} : ((i : Int) + 1).toNat = i + 1 := by omega
theorem toNat0 : Int.toNat 0 = 0 := rfl
def vp := And.intro @toNat0 <| And.intro @castPred <| And.intro @castSucc <| And.intro @mapnn (And.intro @mapp2 (And.intro @maxB (And.intro @mapDrop (And.intro @mapTake (And.intro @mapApp (And.intro @mapSnoc (And.intro @mapSnoc2 (And.intro @mapRep (And.intro @mapSet (And.intro @isNil_nn @cast0'))))))))))
theorem ta3 : szq Try.prog 3 = some 1 ∧ byq Try.prog 3 = some 8 ∧ agq Try.prog 3 = some false ∧ arq Try.prog 3 = none := by decide +kernel
theorem tz3 : zeq Try.prog 3 = some [.p (.i .i64 0)] := by rfl
theorem tu3 : Try.prog.underlying 3 = some (.int .i64) := by rfl
def ty3 := (And.intro ta3 (And.intro tz3 tu3))
theorem ta4 : szq Try.prog 4 = some 1 ∧ byq Try.prog 4 = some 1 ∧ agq Try.prog 4 = some false ∧ arq Try.prog 4 = none ∧ isBool Try.prog 4 = true := by decide +kernel
theorem tz4 : zeq Try.prog 4 = some [.p (.b false)] := by rfl
def ty4 := (And.intro ta4 tz4)
theorem ta9 : szq Try.prog 9 = some 1 ∧ byq Try.prog 9 = some 16 ∧ agq Try.prog 9 = some false ∧ arq Try.prog 9 = none ∧ isStr Try.prog 9 = true := by decide +kernel
theorem tz9 : zeq Try.prog 9 = some [.p (.s ByteArray.empty)] := by rfl
theorem tu9 : Try.prog.underlying 9 = some .string := by rfl
def ty9 := (And.intro ta9 (And.intro tz9 tu9))
theorem ta23 : szq Try.prog 23 = some 2 ∧ byq Try.prog 23 = some 16 ∧ agq Try.prog 23 = some true ∧ arq Try.prog 23 = none ∧ flq Try.prog 23 0 = some (3, 0, 1) ∧ flq Try.prog 23 1 = some (3, 1, 1) ∧ plq Try.prog 23 = some [(0, 1), (1, 1)] ∧ cmpq Try.prog 23 = some [1, 1] := by decide +kernel
theorem tz23 : zeq Try.prog 23 = some [.p (.i .i64 0), .p (.i .i64 0)] := by rfl
def ty23 := (And.intro ta23 tz23)
theorem ta24 : szq Try.prog 24 = some 1 ∧ byq Try.prog 24 = some 24 ∧ agq Try.prog 24 = some false ∧ elq Try.prog 24 = some 133 ∧ arq Try.prog 24 = none := by decide +kernel
theorem tz24 : zeq Try.prog 24 = some [.nilS] := by rfl
def ty24 := (And.intro ta24 tz24)
theorem ta26 : szq Try.prog 26 = some 5 ∧ byq Try.prog 26 = some 56 ∧ agq Try.prog 26 = some true ∧ arq Try.prog 26 = none ∧ flq Try.prog 26 0 = some (23, 0, 2) ∧ flq Try.prog 26 1 = some (23, 2, 2) ∧ flq Try.prog 26 2 = some (24, 4, 1) ∧ plq Try.prog 26 = some [(0, 2), (2, 2), (4, 1)] := by decide +kernel
theorem tz26 : zeq Try.prog 26 = some [.p (.i .i64 0), .p (.i .i64 0), .p (.i .i64 0), .p (.i .i64 0), .nilS] := by rfl
def ty26 := (And.intro ta26 tz26)
theorem ta30 : szq Try.prog 30 = some 1 ∧ byq Try.prog 30 = some 8 ∧ agq Try.prog 30 = some false ∧ arq Try.prog 30 = none := by decide +kernel
theorem tz30 : zeq Try.prog 30 = some [.p (.i .i64 0)] := by rfl
theorem tu30 : Try.prog.underlying 30 = some (.int .i64) := by rfl
def ty30 := (And.intro ta30 (And.intro tz30 tu30))
theorem ta35 : szq Try.prog 35 = some 2 ∧ byq Try.prog 35 = some 16 ∧ agq Try.prog 35 = some true ∧ arq Try.prog 35 = none ∧ flq Try.prog 35 0 = some (3, 0, 1) ∧ flq Try.prog 35 1 = some (3, 1, 1) ∧ plq Try.prog 35 = some [(0, 1), (1, 1)] ∧ cmpq Try.prog 35 = some [1, 1] := by decide +kernel
theorem tz35 : zeq Try.prog 35 = some [.p (.i .i64 0), .p (.i .i64 0)] := by rfl
def ty35 := (And.intro ta35 tz35)
theorem ta37 : szq Try.prog 37 = some 4 ∧ byq Try.prog 37 = some 32 ∧ agq Try.prog 37 = some true ∧ arq Try.prog 37 = none ∧ flq Try.prog 37 0 = some (35, 0, 2) ∧ flq Try.prog 37 1 = some (35, 2, 2) ∧ plq Try.prog 37 = some [(0, 2), (2, 2)] ∧ cmpq Try.prog 37 = some [1, 1, 1, 1] := by decide +kernel
theorem tz37 : zeq Try.prog 37 = some [.p (.i .i64 0), .p (.i .i64 0), .p (.i .i64 0), .p (.i .i64 0)] := by rfl
def ty37 := (And.intro ta37 tz37)
theorem ta40 : szq Try.prog 40 = some 8 ∧ byq Try.prog 40 = some 64 ∧ agq Try.prog 40 = some true ∧ arq Try.prog 40 = some (2, 37) ∧ plq Try.prog 40 = some [(0, 4), (4, 4)] := by decide +kernel
theorem tz40 : zeq Try.prog 40 = some [.p (.i .i64 0), .p (.i .i64 0), .p (.i .i64 0), .p (.i .i64 0), .p (.i .i64 0), .p (.i .i64 0), .p (.i .i64 0), .p (.i .i64 0)] := by rfl
def ty40 := (And.intro ta40 tz40)
theorem ta51 : szq Try.prog 51 = some 1 ∧ byq Try.prog 51 = some 24 ∧ agq Try.prog 51 = some false ∧ elq Try.prog 51 = some 181 ∧ arq Try.prog 51 = none := by decide +kernel
theorem tz51 : zeq Try.prog 51 = some [.nilS] := by rfl
def ty51 := (And.intro ta51 tz51)
theorem ta53 : szq Try.prog 53 = some 6 ∧ byq Try.prog 53 = some 64 ∧ agq Try.prog 53 = some true ∧ arq Try.prog 53 = none ∧ flq Try.prog 53 0 = some (51, 0, 1) ∧ flq Try.prog 53 1 = some (35, 1, 2) ∧ flq Try.prog 53 2 = some (35, 3, 2) ∧ flq Try.prog 53 3 = some (3, 5, 1) ∧ plq Try.prog 53 = some [(0, 1), (1, 2), (3, 2), (5, 1)] := by decide +kernel
theorem tz53 : zeq Try.prog 53 = some [.nilS, .p (.i .i64 0), .p (.i .i64 0), .p (.i .i64 0), .p (.i .i64 0), .p (.i .i64 0)] := by rfl
def ty53 := (And.intro ta53 tz53)
theorem ta55 : szq Try.prog 55 = some 2 ∧ byq Try.prog 55 = some 16 ∧ agq Try.prog 55 = some true ∧ arq Try.prog 55 = none ∧ flq Try.prog 55 0 = some (3, 0, 1) ∧ flq Try.prog 55 1 = some (3, 1, 1) ∧ plq Try.prog 55 = some [(0, 1), (1, 1)] ∧ cmpq Try.prog 55 = some [1, 1] := by decide +kernel
theorem tz55 : zeq Try.prog 55 = some [.p (.i .i64 0), .p (.i .i64 0)] := by rfl
def ty55 := (And.intro ta55 tz55)
theorem ta56 : szq Try.prog 56 = some 3 ∧ byq Try.prog 56 = some 24 ∧ agq Try.prog 56 = some true ∧ arq Try.prog 56 = some (3, 3) ∧ plq Try.prog 56 = some [(0, 1), (1, 1), (2, 1)] := by decide +kernel
theorem tz56 : zeq Try.prog 56 = some [.p (.i .i64 0), .p (.i .i64 0), .p (.i .i64 0)] := by rfl
def ty56 := (And.intro ta56 tz56)
theorem ta77 : szq Try.prog 77 = some 1 ∧ byq Try.prog 77 = some 24 ∧ agq Try.prog 77 = some false ∧ elq Try.prog 77 = some 178 ∧ arq Try.prog 77 = none := by decide +kernel
theorem tz77 : zeq Try.prog 77 = some [.nilS] := by rfl
def ty77 := (And.intro ta77 tz77)
theorem ta79 : szq Try.prog 79 = some 2 ∧ byq Try.prog 79 = some 40 ∧ agq Try.prog 79 = some true ∧ arq Try.prog 79 = none ∧ flq Try.prog 79 0 = some (9, 0, 1) ∧ flq Try.prog 79 1 = some (77, 1, 1) ∧ plq Try.prog 79 = some [(0, 1), (1, 1)] := by decide +kernel
theorem tz79 : zeq Try.prog 79 = some [.p (.s ByteArray.empty), .nilS] := by rfl
def ty79 := (And.intro ta79 tz79)
theorem ta104 : szq Try.prog 104 = some 2 ∧ byq Try.prog 104 = some 16 ∧ agq Try.prog 104 = some true ∧ arq Try.prog 104 = some (2, 3) ∧ plq Try.prog 104 = some [(0, 1), (1, 1)] := by decide +kernel
theorem tz104 : zeq Try.prog 104 = some [.p (.i .i64 0), .p (.i .i64 0)] := by rfl
def ty104 := (And.intro ta104 tz104)
theorem ta133 : szq Try.prog 133 = some 3 ∧ byq Try.prog 133 = some 24 ∧ agq Try.prog 133 = some true ∧ arq Try.prog 133 = none ∧ flq Try.prog 133 0 = some (3, 0, 1) ∧ flq Try.prog 133 1 = some (23, 1, 2) ∧ plq Try.prog 133 = some [(0, 1), (1, 2)] ∧ cmpq Try.prog 133 = some [1, 1, 1] := by decide +kernel
theorem tz133 : zeq Try.prog 133 = some [.p (.i .i64 0), .p (.i .i64 0), .p (.i .i64 0)] := by rfl
def ty133 := (And.intro ta133 tz133)
theorem ta134 : szq Try.prog 134 = some 1 ∧ byq Try.prog 134 = some 24 ∧ agq Try.prog 134 = some false ∧ elq Try.prog 134 = some 3 ∧ arq Try.prog 134 = none := by decide +kernel
theorem tz134 : zeq Try.prog 134 = some [.nilS] := by rfl
def ty134 := (And.intro ta134 tz134)
theorem ta144 : szq Try.prog 144 = some 1 ∧ byq Try.prog 144 = some 24 ∧ agq Try.prog 144 = some false ∧ elq Try.prog 144 = some 198 ∧ arq Try.prog 144 = none := by decide +kernel
theorem tz144 : zeq Try.prog 144 = some [.nilS] := by rfl
def ty144 := (And.intro ta144 tz144)
theorem ta148 : szq Try.prog 148 = some 1 ∧ byq Try.prog 148 = some 24 ∧ agq Try.prog 148 = some false ∧ elq Try.prog 148 = some 156 ∧ arq Try.prog 148 = none := by decide +kernel
theorem tz148 : zeq Try.prog 148 = some [.nilS] := by rfl
def ty148 := (And.intro ta148 tz148)
theorem ta150 : szq Try.prog 150 = some 1 ∧ byq Try.prog 150 = some 24 ∧ agq Try.prog 150 = some false ∧ elq Try.prog 150 = some 154 ∧ arq Try.prog 150 = none := by decide +kernel
theorem tz150 : zeq Try.prog 150 = some [.nilS] := by rfl
def ty150 := (And.intro ta150 tz150)
theorem ta152 : szq Try.prog 152 = some 2 ∧ byq Try.prog 152 = some 32 ∧ agq Try.prog 152 = some true ∧ arq Try.prog 152 = none ∧ flq Try.prog 152 0 = some (3, 0, 1) ∧ flq Try.prog 152 1 = some (134, 1, 1) ∧ plq Try.prog 152 = some [(0, 1), (1, 1)] := by decide +kernel
theorem tz152 : zeq Try.prog 152 = some [.p (.i .i64 0), .nilS] := by rfl
def ty152 := (And.intro ta152 tz152)
theorem ta154 : szq Try.prog 154 = some 4 ∧ byq Try.prog 154 = some 64 ∧ agq Try.prog 154 = some true ∧ arq Try.prog 154 = none ∧ flq Try.prog 154 0 = some (152, 0, 2) ∧ flq Try.prog 154 1 = some (152, 2, 2) ∧ plq Try.prog 154 = some [(0, 2), (2, 2)] := by decide +kernel
theorem tz154 : zeq Try.prog 154 = some [.p (.i .i64 0), .nilS, .p (.i .i64 0), .nilS] := by rfl
def ty154 := (And.intro ta154 tz154)
theorem ta156 : szq Try.prog 156 = some 8 ∧ byq Try.prog 156 = some 128 ∧ agq Try.prog 156 = some true ∧ arq Try.prog 156 = none ∧ flq Try.prog 156 0 = some (154, 0, 4) ∧ flq Try.prog 156 1 = some (154, 4, 4) ∧ plq Try.prog 156 = some [(0, 4), (4, 4)] := by decide +kernel
theorem tz156 : zeq Try.prog 156 = some [.p (.i .i64 0), .nilS, .p (.i .i64 0), .nilS, .p (.i .i64 0), .nilS, .p (.i .i64 0), .nilS] := by rfl
def ty156 := (And.intro ta156 tz156)
theorem ta178 : szq Try.prog 178 = some 2 ∧ byq Try.prog 178 = some 16 ∧ agq Try.prog 178 = some true ∧ arq Try.prog 178 = none ∧ flq Try.prog 178 0 = some (3, 0, 1) ∧ flq Try.prog 178 1 = some (3, 1, 1) ∧ plq Try.prog 178 = some [(0, 1), (1, 1)] ∧ cmpq Try.prog 178 = some [1, 1] := by decide +kernel
theorem tz178 : zeq Try.prog 178 = some [.p (.i .i64 0), .p (.i .i64 0)] := by rfl
def ty178 := (And.intro ta178 tz178)
theorem ta181 : szq Try.prog 181 = some 2 ∧ byq Try.prog 181 = some 16 ∧ agq Try.prog 181 = some true ∧ arq Try.prog 181 = none ∧ flq Try.prog 181 0 = some (3, 0, 1) ∧ flq Try.prog 181 1 = some (3, 1, 1) ∧ plq Try.prog 181 = some [(0, 1), (1, 1)] ∧ cmpq Try.prog 181 = some [1, 1] := by decide +kernel
theorem tz181 : zeq Try.prog 181 = some [.p (.i .i64 0), .p (.i .i64 0)] := by rfl
def ty181 := (And.intro ta181 tz181)
theorem ta192 : szq Try.prog 192 = some 1 ∧ byq Try.prog 192 = some 24 ∧ agq Try.prog 192 = some false ∧ elq Try.prog 192 = some 30 ∧ arq Try.prog 192 = none := by decide +kernel
theorem tz192 : zeq Try.prog 192 = some [.nilS] := by rfl
def ty192 := (And.intro ta192 tz192)
theorem ta196 : szq Try.prog 196 = some 3 ∧ byq Try.prog 196 = some 24 ∧ agq Try.prog 196 = some true ∧ arq Try.prog 196 = none ∧ flq Try.prog 196 0 = some (3, 0, 1) ∧ flq Try.prog 196 1 = some (3, 1, 1) ∧ flq Try.prog 196 2 = some (3, 2, 1) ∧ plq Try.prog 196 = some [(0, 1), (1, 1), (2, 1)] ∧ cmpq Try.prog 196 = some [1, 1, 1] := by decide +kernel
theorem tz196 : zeq Try.prog 196 = some [.p (.i .i64 0), .p (.i .i64 0), .p (.i .i64 0)] := by rfl
def ty196 := (And.intro ta196 tz196)
theorem ta198 : szq Try.prog 198 = some 4 ∧ byq Try.prog 198 = some 32 ∧ agq Try.prog 198 = some true ∧ arq Try.prog 198 = none ∧ flq Try.prog 198 0 = some (3, 0, 1) ∧ flq Try.prog 198 1 = some (3, 1, 1) ∧ flq Try.prog 198 2 = some (23, 2, 2) ∧ plq Try.prog 198 = some [(0, 1), (1, 1), (2, 2)] ∧ cmpq Try.prog 198 = some [1, 1, 1, 1] := by decide +kernel
theorem tz198 : zeq Try.prog 198 = some [.p (.i .i64 0), .p (.i .i64 0), .p (.i .i64 0), .p (.i .i64 0)] := by rfl
def ty198 := (And.intro ta198 tz198)
theorem ta202 : szq Try.prog 202 = some 3 ∧ byq Try.prog 202 = some 24 ∧ agq Try.prog 202 = some true ∧ arq Try.prog 202 = none ∧ flq Try.prog 202 0 = some (3, 0, 1) ∧ flq Try.prog 202 1 = some (3, 1, 1) ∧ flq Try.prog 202 2 = some (3, 2, 1) ∧ plq Try.prog 202 = some [(0, 1), (1, 1), (2, 1)] ∧ cmpq Try.prog 202 = some [1, 1, 1] := by decide +kernel
theorem tz202 : zeq Try.prog 202 = some [.p (.i .i64 0), .p (.i .i64 0), .p (.i .i64 0)] := by rfl
def ty202 := (And.intro ta202 tz202)
theorem ta203 : szq Try.prog 203 = some 1 ∧ byq Try.prog 203 = some 24 ∧ agq Try.prog 203 = some false ∧ elq Try.prog 203 = some 202 ∧ arq Try.prog 203 = none := by decide +kernel
theorem tz203 : zeq Try.prog 203 = some [.nilS] := by rfl
def ty203 := (And.intro ta203 tz203)
def q3 := (And.intro ty26 (And.intro ty3 (And.intro ty24 (And.intro ty37 (And.intro ty40 (And.intro ty30 (And.intro ty23 (And.intro ty133 ty35))))))))
def q4 := (And.intro ty53 (And.intro ty55 (And.intro ty56 (And.intro ty3 (And.intro ty30 (And.intro ty51 (And.intro ty35 ty181)))))))
def q5 := (And.intro ty53 (And.intro ty55 (And.intro ty35 (And.intro ty3 (And.intro ty30 (And.intro ty51 ty181))))))
def q6 := (And.intro ty53 (And.intro ty55 (And.intro ty79 (And.intro ty3 (And.intro ty35 (And.intro ty30 (And.intro ty51 (And.intro ty9 (And.intro ty77 (And.intro ty181 ty178))))))))))
def q13 := (And.intro ty26 (And.intro ty24 (And.intro ty3 (And.intro ty23 ty133))))
def q14 := (And.intro ty26 (And.intro ty23 (And.intro ty24 (And.intro ty3 ty133))))
def q15 := (And.intro ty26 (And.intro ty23 (And.intro ty3 (And.intro ty24 (And.intro ty192 (And.intro ty30 ty133))))))
def q16 := (And.intro ty26 (And.intro ty24 (And.intro ty23 (And.intro ty133 ty3))))
def q17 := (And.intro ty26 (And.intro ty37 (And.intro ty192 (And.intro ty30 (And.intro ty23 (And.intro ty24 (And.intro ty35 (And.intro ty3 ty133))))))))
def q18 := (And.intro ty26 (And.intro ty40 (And.intro ty30 (And.intro ty37 (And.intro ty23 (And.intro ty24 (And.intro ty35 (And.intro ty3 ty133))))))))
def q19 := (And.intro ty26 (And.intro ty23 (And.intro ty3 (And.intro ty24 ty133))))
def q20 := (And.intro ty26 (And.intro ty40 (And.intro ty148 (And.intro ty3 (And.intro ty156 (And.intro ty154 (And.intro ty150 (And.intro ty23 (And.intro ty24 (And.intro ty37 (And.intro ty152 (And.intro ty133 (And.intro ty35 ty134)))))))))))))
def q22 := (And.intro ty26 (And.intro ty37 (And.intro ty148 (And.intro ty3 (And.intro ty156 (And.intro ty150 (And.intro ty23 (And.intro ty24 (And.intro ty35 (And.intro ty154 (And.intro ty133 ty152)))))))))))
def q44 := (And.intro ty35 ty3)
def q77 := (And.intro ty23 ty3)
def q79 := (And.intro ty192 (And.intro ty3 ty30))
def q81 := (And.intro ty26 (And.intro ty23 (And.intro ty24 (And.intro ty3 ty133))))
def q82 := (And.intro ty3 (And.intro ty37 (And.intro ty4 (And.intro ty196 (And.intro ty198 (And.intro ty35 ty23))))))
def q83 := (And.intro ty23 ty3)
def q84 := (And.intro ty26 (And.intro ty23 (And.intro ty3 (And.intro ty202 (And.intro ty203 (And.intro ty24 (And.intro ty133 (And.intro ty156 (And.intro ty148 (And.intro ty154 ty152))))))))))
def q85 := (And.intro ty37 (And.intro ty150 (And.intro ty154 (And.intro ty3 (And.intro ty35 (And.intro ty152 ty134))))))
def q86 := (And.intro ty156 (And.intro ty154 (And.intro ty152 (And.intro ty3 ty134))))
def q92 := (And.intro ty35 ty3)
def q124 := (And.intro ty26 (And.intro ty23 (And.intro ty198 (And.intro ty144 (And.intro ty24 (And.intro ty3 ty133))))))
def q125 := (And.intro ty144 (And.intro ty3 (And.intro ty198 (And.intro ty23 (And.intro ty104 ty196)))))
def q126 := (And.intro ty198 (And.intro ty196 (And.intro ty3 ty23)))
def q127 := (And.intro ty35 ty3)
def q128 := (And.intro ty154 (And.intro ty152 (And.intro ty3 ty134)))
def q129 := (And.intro ty26 (And.intro ty156 (And.intro ty154 (And.intro ty23 (And.intro ty24 (And.intro ty3 (And.intro ty133 (And.intro ty152 ty134))))))))
def q130 := (And.intro ty154 (And.intro ty152 (And.intro ty3 ty134)))
def q131 := (And.intro ty154 (And.intro ty35 (And.intro ty152 (And.intro ty3 ty134))))
def q132 := (And.intro ty154 (And.intro ty152 (And.intro ty3 ty134)))
def q133 := (And.intro ty154 (And.intro ty152 (And.intro ty3 ty134)))
def q134 := (And.intro ty154 (And.intro ty152 (And.intro ty3 ty134)))
def q146 := (And.intro ty198 (And.intro ty196 (And.intro ty3 ty23)))
def q147 := (And.intro ty196 (And.intro ty144 (And.intro ty3 (And.intro ty198 ty23))))
def q148 := (And.intro ty152 (And.intro ty154 (And.intro ty3 ty134)))
def q149 := (And.intro ty152 (And.intro ty3 ty134))
def q150 := (And.intro ty154 (And.intro ty23 (And.intro ty3 (And.intro ty152 ty134))))
def q151 := (And.intro ty152 (And.intro ty3 ty134))
def q152 := (And.intro ty152 (And.intro ty134 ty3))
def q153 := (And.intro ty152 (And.intro ty134 ty3))
def q154 := (And.intro ty152 (And.intro ty3 ty134))
def q155 := (And.intro ty198 (And.intro ty196 (And.intro ty23 ty3)))
def q156 := (And.intro ty152 (And.intro ty3 ty134))
def q157 := (And.intro ty152 (And.intro ty3 ty134))
def q158 := (And.intro ty152 (And.intro ty3 ty134))
def q159 := (And.intro ty152 (And.intro ty3 ty134))
def q160 := (And.intro ty152 (And.intro ty134 ty3))
def q161 := (And.intro ty152 (And.intro ty3 ty134))
def q162 := (And.intro ty134 ty3)
def q163 := (And.intro ty134 ty3)
def q164 := (And.intro ty134 ty3)
def q165 := (And.intro ty152 (And.intro ty3 ty134))
def q166 := (And.intro ty134 ty3)
def q167 := (And.intro ty134 ty3)
end Go.Vm
