import Derived.Test.YtafnpnopefamkaaVmBC
import Derived.Test.YtafnpnopefamkaaProg
set_option linter.all false
namespace Go.Vm
open Go.Proofs
set_option maxRecDepth 20000
set_option maxHeartbeats 8000000
def Γ0 : Nat → Option (List V) := fun _ => none
abbrev Sp0 : FuncId → List V → R → Prop := Spec Try.prog Γ0
abbrev nn (n : Int) : V := .i .i64 n
theorem mixed : Try.prog.follows .mixedOrders = true := by decide +kernel
theorem wr64 {n : Int} (h1 : -9223372036854775808 ≤ n) (h2 : n ≤ 9223372036854775807) : IntKind.wrap .i64 n = n := by
  simp [IntKind.wrap, IntKind.signed, IntKind.bits] <;> (try split) <;> omega
theorem mapnn {xs : List Int} : (∀ y, y ∈ List.map nn xs → y.cells.length = 1) = True := by
  simp only [List.mem_map, eq_iff_iff, iff_true]; rintro y ⟨a, _, rfl⟩; rfl
abbrev p2 (p : Int × Int) : V := .agg [nn p.1, nn p.2]
theorem mapp2 {xs : List (Int × Int)} : (∀ y, y ∈ List.map p2 xs → y.cells.length = 2) = True := by
  simp only [List.mem_map, eq_iff_iff, iff_true]; rintro y ⟨a, _, rfl⟩; rfl
theorem maxB : maxBytes = 1099511627776 := rfl
theorem mapDrop {α : Type} {f : α → V} {xs : List α} {n : Nat} : (xs.map f).drop n = (xs.drop n).map f := by rw [List.map_drop]
theorem mapTake {α : Type} {f : α → V} {xs : List α} {n : Nat} : (xs.map f).take n = (xs.take n).map f := by rw [List.map_take]
theorem mapApp {α : Type} {f : α → V} {xs ys : List α} : xs.map f ++ ys.map f = (xs ++ ys).map f := by rw [List.map_append]
theorem mapSnoc {xs : List Int} {y : Int} : xs.map nn ++ [V.i .i64 y] = (xs ++ [y]).map nn := by rw [List.map_append]; rfl
theorem mapSnoc2 {xs : List (Int × Int)} {y z : Int} : xs.map p2 ++ [V.agg [V.i .i64 y, V.i .i64 z]] = (xs ++ [(y, z)]).map p2 := by rw [List.map_append]; rfl
theorem mapRep {n : Nat} {a : Int} : List.replicate n (V.i .i64 a) = (List.replicate n a).map nn := by rw [List.map_replicate]
theorem mapSet {xs : List Int} {n : Nat} {a : Int} : (xs.map nn).set n (V.i .i64 a) = (xs.set n a).map nn := by rw [List.map_set]
theorem isNil_nn {σ : VS} {x : Int} {xs : List Int} : isNil σ (.p (.sl ((x :: xs).map nn))) = some false := rfl
theorem cast0' : ((0 : Nat) : Int) = 0 := rfl
theorem castPred {i : Nat} : ((i : Int) - 1).toNat = i - 1 := by omega
theorem castSucc {i : Nat} : ((i : Int) + 1).toNat = i + 1 := by omega
theorem toNat0 : Int.toNat 0 = 0 := rfl
theorem winM_0 : winM Γ0 = false := Eq.trans rfl rfl
def vp := And.intro @winM_0 <| And.intro (@Option.map_none.{0, 0}) <| And.intro @toNat0 <| And.intro @castPred <| And.intro @castSucc <| And.intro @mapnn (And.intro @mapp2 (And.intro @maxB (And.intro @mapDrop (And.intro @mapTake (And.intro @mapApp (And.intro @mapSnoc (And.intro @mapSnoc2 (And.intro @mapRep (And.intro @mapSet (And.intro @isNil_nn @cast0'))))))))))
theorem ta3 : szq Try.prog 3 = some 1 ∧ byq Try.prog 3 = some 8 ∧ agq Try.prog 3 = some false ∧ arq Try.prog 3 = none := by decide +kernel
theorem tz3 : zeq Try.prog 3 = some [.p (.i .i64 0)] := by rfl
theorem tu3 : Try.prog.underlying 3 = some (.int .i64) := by rfl
def ty3 := (And.intro ta3 (And.intro tz3 tu3))
theorem ta4 : szq Try.prog 4 = some 1 ∧ byq Try.prog 4 = some 1 ∧ agq Try.prog 4 = some false ∧ arq Try.prog 4 = none ∧ isBool Try.prog 4 = true := by decide +kernel
theorem tz4 : zeq Try.prog 4 = some [.p (.b false)] := by rfl
def ty4 := (And.intro ta4 tz4)
theorem ta22 : szq Try.prog 22 = some 1 ∧ byq Try.prog 22 = some 24 ∧ agq Try.prog 22 = some false ∧ elq Try.prog 22 = some 123 ∧ arq Try.prog 22 = none := by decide +kernel
theorem tz22 : zeq Try.prog 22 = some [.nilS] := by rfl
def ty22 := (And.intro ta22 tz22)
theorem ta24 : szq Try.prog 24 = some 1 ∧ byq Try.prog 24 = some 24 ∧ agq Try.prog 24 = some true ∧ arq Try.prog 24 = none ∧ flq Try.prog 24 0 = some (22, 0, 1) ∧ plq Try.prog 24 = some [(0, 1)] := by decide +kernel
theorem tz24 : zeq Try.prog 24 = some [.nilS] := by rfl
def ty24 := (And.intro ta24 tz24)
theorem ta26 : szq Try.prog 26 = some 2 ∧ byq Try.prog 26 = some 16 ∧ agq Try.prog 26 = some true ∧ arq Try.prog 26 = none ∧ flq Try.prog 26 0 = some (3, 0, 1) ∧ flq Try.prog 26 1 = some (3, 1, 1) ∧ plq Try.prog 26 = some [(0, 1), (1, 1)] ∧ cmpq Try.prog 26 = some [1, 1] := by decide +kernel
theorem tz26 : zeq Try.prog 26 = some [.p (.i .i64 0), .p (.i .i64 0)] := by rfl
def ty26 := (And.intro ta26 tz26)
theorem ta28 : szq Try.prog 28 = some 4 ∧ byq Try.prog 28 = some 48 ∧ agq Try.prog 28 = some true ∧ arq Try.prog 28 = none ∧ flq Try.prog 28 0 = some (24, 0, 1) ∧ flq Try.prog 28 1 = some (3, 1, 1) ∧ flq Try.prog 28 2 = some (26, 2, 2) ∧ plq Try.prog 28 = some [(0, 1), (1, 1), (2, 2)] := by decide +kernel
theorem tz28 : zeq Try.prog 28 = some [.nilS, .p (.i .i64 0), .p (.i .i64 0), .p (.i .i64 0)] := by rfl
def ty28 := (And.intro ta28 tz28)
theorem ta29 : szq Try.prog 29 = some 1 ∧ byq Try.prog 29 = some 24 ∧ agq Try.prog 29 = some false ∧ elq Try.prog 29 = some 3 ∧ arq Try.prog 29 = none := by decide +kernel
theorem tz29 : zeq Try.prog 29 = some [.nilS] := by rfl
def ty29 := (And.intro ta29 tz29)
theorem ta31 : szq Try.prog 31 = some 2 ∧ byq Try.prog 31 = some 32 ∧ agq Try.prog 31 = some true ∧ arq Try.prog 31 = none ∧ flq Try.prog 31 0 = some (29, 0, 1) ∧ flq Try.prog 31 1 = some (3, 1, 1) ∧ plq Try.prog 31 = some [(0, 1), (1, 1)] := by decide +kernel
theorem tz31 : zeq Try.prog 31 = some [.nilS, .p (.i .i64 0)] := by rfl
def ty31 := (And.intro ta31 tz31)
theorem ta32 : szq Try.prog 32 = some 1 ∧ byq Try.prog 32 = some 24 ∧ agq Try.prog 32 = some false ∧ elq Try.prog 32 = some 29 ∧ arq Try.prog 32 = none := by decide +kernel
theorem tz32 : zeq Try.prog 32 = some [.nilS] := by rfl
def ty32 := (And.intro ta32 tz32)
theorem ta34 : szq Try.prog 34 = some 5 ∧ byq Try.prog 34 = some 88 ∧ agq Try.prog 34 = some true ∧ arq Try.prog 34 = none ∧ flq Try.prog 34 0 = some (32, 0, 1) ∧ flq Try.prog 34 1 = some (29, 1, 1) ∧ flq Try.prog 34 2 = some (29, 2, 1) ∧ flq Try.prog 34 3 = some (26, 3, 2) ∧ plq Try.prog 34 = some [(0, 1), (1, 1), (2, 1), (3, 2)] := by decide +kernel
theorem tz34 : zeq Try.prog 34 = some [.nilS, .nilS, .nilS, .p (.i .i64 0), .p (.i .i64 0)] := by rfl
def ty34 := (And.intro ta34 tz34)
theorem ta36 : szq Try.prog 36 = some 6 ∧ byq Try.prog 36 = some 112 ∧ agq Try.prog 36 = some true ∧ arq Try.prog 36 = none ∧ flq Try.prog 36 0 = some (34, 0, 5) ∧ flq Try.prog 36 1 = some (29, 5, 1) ∧ plq Try.prog 36 = some [(0, 5), (5, 1)] := by decide +kernel
theorem tz36 : zeq Try.prog 36 = some [.nilS, .nilS, .nilS, .p (.i .i64 0), .p (.i .i64 0), .nilS] := by rfl
def ty36 := (And.intro ta36 tz36)
theorem ta41 : szq Try.prog 41 = some 1 ∧ byq Try.prog 41 = some 8 ∧ agq Try.prog 41 = some false ∧ arq Try.prog 41 = none := by decide +kernel
theorem tz41 : zeq Try.prog 41 = some [.p (.i .i64 0)] := by rfl
theorem tu41 : Try.prog.underlying 41 = some (.int .i64) := by rfl
def ty41 := (And.intro ta41 (And.intro tz41 tu41))
theorem ta57 : szq Try.prog 57 = some 3 ∧ byq Try.prog 57 = some 72 ∧ agq Try.prog 57 = some true ∧ arq Try.prog 57 = none ∧ flq Try.prog 57 0 = some (29, 0, 1) ∧ flq Try.prog 57 1 = some (32, 1, 1) ∧ flq Try.prog 57 2 = some (32, 2, 1) ∧ plq Try.prog 57 = some [(0, 1), (1, 1), (2, 1)] := by decide +kernel
theorem tz57 : zeq Try.prog 57 = some [.nilS, .nilS, .nilS] := by rfl
def ty57 := (And.intro ta57 tz57)
theorem ta64 : szq Try.prog 64 = some 8 ∧ byq Try.prog 64 = some 160 ∧ agq Try.prog 64 = some true ∧ arq Try.prog 64 = none ∧ flq Try.prog 64 0 = some (34, 0, 5) ∧ flq Try.prog 64 1 = some (57, 5, 3) ∧ plq Try.prog 64 = some [(0, 5), (5, 3)] := by decide +kernel
theorem tz64 : zeq Try.prog 64 = some [.nilS, .nilS, .nilS, .p (.i .i64 0), .p (.i .i64 0), .nilS, .nilS, .nilS] := by rfl
def ty64 := (And.intro ta64 tz64)
theorem ta66 : szq Try.prog 66 = some 1 ∧ byq Try.prog 66 = some 24 ∧ agq Try.prog 66 = some false ∧ elq Try.prog 66 = some 68 ∧ arq Try.prog 66 = none := by decide +kernel
theorem tz66 : zeq Try.prog 66 = some [.nilS] := by rfl
def ty66 := (And.intro ta66 tz66)
theorem ta68 : szq Try.prog 68 = some 2 ∧ byq Try.prog 68 = some 16 ∧ agq Try.prog 68 = some true ∧ arq Try.prog 68 = none ∧ flq Try.prog 68 0 = some (3, 0, 1) ∧ flq Try.prog 68 1 = some (3, 1, 1) ∧ plq Try.prog 68 = some [(0, 1), (1, 1)] ∧ cmpq Try.prog 68 = some [1, 1] := by decide +kernel
theorem tz68 : zeq Try.prog 68 = some [.p (.i .i64 0), .p (.i .i64 0)] := by rfl
def ty68 := (And.intro ta68 tz68)
theorem ta71 : szq Try.prog 71 = some 3 ∧ byq Try.prog 71 = some 40 ∧ agq Try.prog 71 = some true ∧ arq Try.prog 71 = none ∧ flq Try.prog 71 0 = some (66, 0, 1) ∧ flq Try.prog 71 1 = some (26, 1, 2) ∧ plq Try.prog 71 = some [(0, 1), (1, 2)] := by decide +kernel
theorem tz71 : zeq Try.prog 71 = some [.nilS, .p (.i .i64 0), .p (.i .i64 0)] := by rfl
def ty71 := (And.intro ta71 tz71)
theorem ta78 : szq Try.prog 78 = some 2 ∧ byq Try.prog 78 = some 16 ∧ agq Try.prog 78 = some true ∧ arq Try.prog 78 = none ∧ flq Try.prog 78 0 = some (3, 0, 1) ∧ flq Try.prog 78 1 = some (3, 1, 1) ∧ plq Try.prog 78 = some [(0, 1), (1, 1)] ∧ cmpq Try.prog 78 = some [1, 1] := by decide +kernel
theorem tz78 : zeq Try.prog 78 = some [.p (.i .i64 0), .p (.i .i64 0)] := by rfl
def ty78 := (And.intro ta78 tz78)
theorem ta79 : szq Try.prog 79 = some 1 ∧ byq Try.prog 79 = some 24 ∧ agq Try.prog 79 = some false ∧ elq Try.prog 79 = some 26 ∧ arq Try.prog 79 = none := by decide +kernel
theorem tz79 : zeq Try.prog 79 = some [.nilS] := by rfl
def ty79 := (And.intro ta79 tz79)
theorem ta84 : szq Try.prog 84 = some 2 ∧ byq Try.prog 84 = some 32 ∧ agq Try.prog 84 = some true ∧ arq Try.prog 84 = none ∧ flq Try.prog 84 0 = some (29, 0, 1) ∧ flq Try.prog 84 1 = some (3, 1, 1) ∧ plq Try.prog 84 = some [(0, 1), (1, 1)] := by decide +kernel
theorem tz84 : zeq Try.prog 84 = some [.nilS, .p (.i .i64 0)] := by rfl
def ty84 := (And.intro ta84 tz84)
theorem ta94 : szq Try.prog 94 = some 5 ∧ byq Try.prog 94 = some 56 ∧ agq Try.prog 94 = some true ∧ arq Try.prog 94 = none ∧ flq Try.prog 94 0 = some (28, 0, 4) ∧ flq Try.prog 94 1 = some (3, 4, 1) ∧ plq Try.prog 94 = some [(0, 4), (4, 1)] := by decide +kernel
theorem tz94 : zeq Try.prog 94 = some [.nilS, .p (.i .i64 0), .p (.i .i64 0), .p (.i .i64 0), .p (.i .i64 0)] := by rfl
def ty94 := (And.intro ta94 tz94)
theorem ta96 : szq Try.prog 96 = some 11 ∧ byq Try.prog 96 = some 168 ∧ agq Try.prog 96 = some true ∧ arq Try.prog 96 = none ∧ flq Try.prog 96 0 = some (94, 0, 5) ∧ flq Try.prog 96 1 = some (29, 5, 1) ∧ flq Try.prog 96 2 = some (34, 6, 5) ∧ plq Try.prog 96 = some [(0, 5), (5, 1), (6, 5)] := by decide +kernel
theorem tz96 : zeq Try.prog 96 = some [.nilS, .p (.i .i64 0), .p (.i .i64 0), .p (.i .i64 0), .p (.i .i64 0), .nilS, .nilS, .nilS, .nilS, .p (.i .i64 0), .p (.i .i64 0)] := by rfl
def ty96 := (And.intro ta96 tz96)
theorem ta107 : szq Try.prog 107 = some 2 ∧ byq Try.prog 107 = some 48 ∧ agq Try.prog 107 = some true ∧ arq Try.prog 107 = none ∧ flq Try.prog 107 0 = some (29, 0, 1) ∧ flq Try.prog 107 1 = some (29, 1, 1) ∧ plq Try.prog 107 = some [(0, 1), (1, 1)] := by decide +kernel
theorem tz107 : zeq Try.prog 107 = some [.nilS, .nilS] := by rfl
def ty107 := (And.intro ta107 tz107)
theorem ta123 : szq Try.prog 123 = some 2 ∧ byq Try.prog 123 = some 16 ∧ agq Try.prog 123 = some true ∧ arq Try.prog 123 = none ∧ flq Try.prog 123 0 = some (3, 0, 1) ∧ flq Try.prog 123 1 = some (3, 1, 1) ∧ plq Try.prog 123 = some [(0, 1), (1, 1)] ∧ cmpq Try.prog 123 = some [1, 1] := by decide +kernel
theorem tz123 : zeq Try.prog 123 = some [.p (.i .i64 0), .p (.i .i64 0)] := by rfl
def ty123 := (And.intro ta123 tz123)
theorem ta133 : szq Try.prog 133 = some 1 ∧ byq Try.prog 133 = some 24 ∧ agq Try.prog 133 = some false ∧ elq Try.prog 133 = some 41 ∧ arq Try.prog 133 = none := by decide +kernel
theorem tz133 : zeq Try.prog 133 = some [.nilS] := by rfl
def ty133 := (And.intro ta133 tz133)
theorem ta134 : szq Try.prog 134 = some 1 ∧ byq Try.prog 134 = some 24 ∧ agq Try.prog 134 = some false ∧ elq Try.prog 134 = some 32 ∧ arq Try.prog 134 = none := by decide +kernel
theorem tz134 : zeq Try.prog 134 = some [.nilS] := by rfl
def ty134 := (And.intro ta134 tz134)
def q3 := (And.intro ty28 (And.intro ty31 (And.intro ty36 (And.intro ty34 (And.intro ty29 (And.intro ty3 (And.intro ty41 (And.intro ty24 (And.intro ty26 (And.intro ty32 ty22))))))))))
def q4 := (And.intro ty28 (And.intro ty31 (And.intro ty34 (And.intro ty3 (And.intro ty57 (And.intro ty41 (And.intro ty29 (And.intro ty32 (And.intro ty64 (And.intro ty68 (And.intro ty66 (And.intro ty26 (And.intro ty71 (And.intro ty4 (And.intro ty24 ty22)))))))))))))))
def q5 := (And.intro ty78 (And.intro ty31 (And.intro ty68 (And.intro ty66 (And.intro ty29 (And.intro ty84 (And.intro ty41 (And.intro ty26 (And.intro ty79 ty3)))))))))
def q6 := (And.intro ty28 (And.intro ty31 (And.intro ty24 (And.intro ty29 (And.intro ty3 (And.intro ty26 (And.intro ty22 ty123)))))))
def q7 := (And.intro ty34 (And.intro ty32 (And.intro ty3 (And.intro ty29 ty26))))
def q8 := (And.intro ty34 (And.intro ty32 (And.intro ty3 (And.intro ty29 ty26))))
def q9 := (And.intro ty34 (And.intro ty29 (And.intro ty3 (And.intro ty32 ty26))))
def q10 := (And.intro ty34 (And.intro ty41 (And.intro ty32 (And.intro ty29 (And.intro ty26 ty3)))))
def q11 := (And.intro ty34 (And.intro ty32 (And.intro ty29 (And.intro ty26 ty3))))
def q12 := (And.intro ty29 ty3)
def q13 := (And.intro ty28 (And.intro ty31 (And.intro ty34 (And.intro ty96 (And.intro ty41 (And.intro ty29 (And.intro ty24 (And.intro ty3 (And.intro ty26 (And.intro ty32 (And.intro ty94 ty22)))))))))))
def q14 := (And.intro ty28 (And.intro ty24 (And.intro ty3 (And.intro ty26 (And.intro ty22 ty123)))))
def q15 := (And.intro ty31 (And.intro ty29 ty3))
def q16 := (And.intro ty34 (And.intro ty29 (And.intro ty32 (And.intro ty3 ty26))))
def q17 := (And.intro ty34 (And.intro ty29 (And.intro ty3 (And.intro ty32 ty26))))
def q18 := (And.intro ty28 (And.intro ty31 (And.intro ty3 (And.intro ty24 (And.intro ty26 (And.intro ty29 ty22))))))
def q19 := (And.intro ty34 (And.intro ty32 (And.intro ty3 (And.intro ty29 ty26))))
def q20 := (And.intro ty28 (And.intro ty31 (And.intro ty34 (And.intro ty32 (And.intro ty3 (And.intro ty29 (And.intro ty26 (And.intro ty24 ty22))))))))
def q21 := (And.intro ty29 ty3)
def q22 := (And.intro ty28 (And.intro ty31 (And.intro ty34 (And.intro ty57 (And.intro ty3 (And.intro ty41 (And.intro ty96 (And.intro ty26 (And.intro ty32 (And.intro ty24 (And.intro ty29 (And.intro ty94 ty22))))))))))))
def q23 := (And.intro ty28 (And.intro ty31 (And.intro ty64 (And.intro ty29 (And.intro ty41 (And.intro ty34 (And.intro ty96 (And.intro ty57 (And.intro ty32 (And.intro ty3 (And.intro ty133 (And.intro ty134 (And.intro ty26 (And.intro ty24 (And.intro ty94 ty22)))))))))))))))
def q24 := (And.intro ty57 (And.intro ty29 (And.intro ty32 ty3)))
def q25 := (And.intro ty34 (And.intro ty29 (And.intro ty32 (And.intro ty3 ty26))))
def q26 := (And.intro ty28 (And.intro ty31 (And.intro ty71 (And.intro ty41 (And.intro ty3 (And.intro ty94 (And.intro ty29 (And.intro ty66 (And.intro ty26 (And.intro ty24 (And.intro ty68 ty22)))))))))))
def q27 := (And.intro ty28 (And.intro ty31 (And.intro ty78 (And.intro ty3 (And.intro ty133 (And.intro ty41 (And.intro ty94 (And.intro ty29 (And.intro ty24 (And.intro ty26 ty22))))))))))
def q28 := (And.intro ty28 (And.intro ty123 (And.intro ty22 (And.intro ty24 (And.intro ty26 ty3)))))
def q29 := (And.intro ty31 (And.intro ty29 ty3))
def q30 := (And.intro ty28 (And.intro ty31 (And.intro ty133 (And.intro ty41 (And.intro ty3 (And.intro ty94 (And.intro ty29 (And.intro ty107 (And.intro ty26 (And.intro ty79 (And.intro ty24 ty22)))))))))))
def q31 := (And.intro ty84 (And.intro ty133 (And.intro ty41 (And.intro ty3 ty29))))
def q32 := (And.intro ty79 (And.intro ty3 ty26))
def q33 := (And.intro ty24 (And.intro ty22 (And.intro ty3 ty123)))
def q36 := (And.intro ty26 ty3)
def q37 := (And.intro ty34 (And.intro ty32 (And.intro ty3 (And.intro ty29 (And.intro ty133 (And.intro ty41 ty26))))))
def q38 := (And.intro ty34 (And.intro ty29 (And.intro ty32 (And.intro ty3 ty26))))
def q39 := (And.intro ty34 (And.intro ty29 (And.intro ty3 (And.intro ty32 ty26))))
def q40 := (And.intro ty32 (And.intro ty3 ty29))
def q41 := (And.intro ty28 (And.intro ty31 (And.intro ty34 (And.intro ty96 (And.intro ty133 (And.intro ty41 (And.intro ty32 (And.intro ty3 (And.intro ty29 (And.intro ty94 (And.intro ty24 (And.intro ty26 ty22))))))))))))
def q42 := (And.intro ty96 (And.intro ty29 (And.intro ty34 (And.intro ty3 (And.intro ty26 (And.intro ty94 (And.intro ty32 ty28)))))))
def q43 := (And.intro ty24 (And.intro ty22 (And.intro ty123 ty3)))
def q44 := (And.intro ty28 (And.intro ty24 (And.intro ty3 (And.intro ty26 (And.intro ty22 ty123)))))
def q45 := (And.intro ty31 (And.intro ty29 ty3))
def q46 := (And.intro ty26 ty3)
def q47 := (And.intro ty28 (And.intro ty31 (And.intro ty34 (And.intro ty29 (And.intro ty3 (And.intro ty32 (And.intro ty68 (And.intro ty66 (And.intro ty24 (And.intro ty26 ty22))))))))))
def q48 := (And.intro ty96 (And.intro ty94 (And.intro ty29 (And.intro ty34 (And.intro ty28 (And.intro ty3 (And.intro ty32 ty26)))))))
def q49 := (And.intro ty96 (And.intro ty107 (And.intro ty29 (And.intro ty3 (And.intro ty34 (And.intro ty32 (And.intro ty68 (And.intro ty66 (And.intro ty94 (And.intro ty26 (And.intro ty28 ty24)))))))))))
def q50 := (And.intro ty107 (And.intro ty26 (And.intro ty29 ty3)))
def q51 := (And.intro ty133 (And.intro ty3 ty41))
def q53 := (And.intro ty134 (And.intro ty3 (And.intro ty32 ty29)))
def q54 := (And.intro ty107 (And.intro ty26 (And.intro ty29 ty3)))
def q56 := (And.intro ty96 (And.intro ty26 (And.intro ty94 (And.intro ty29 (And.intro ty34 (And.intro ty3 (And.intro ty28 ty32)))))))
def q57 := (And.intro ty96 (And.intro ty26 (And.intro ty94 (And.intro ty29 (And.intro ty34 (And.intro ty3 (And.intro ty28 ty32)))))))
def q58 := (And.intro ty107 (And.intro ty26 (And.intro ty29 ty3)))
def q59 := (And.intro ty29 ty3)
def q60 := (And.intro ty29 ty3)
def q61 := (And.intro ty29 ty3)
def q62 := (And.intro ty28 (And.intro ty31 (And.intro ty71 (And.intro ty66 (And.intro ty3 (And.intro ty26 (And.intro ty133 (And.intro ty24 (And.intro ty29 (And.intro ty68 (And.intro ty41 ty22)))))))))))
def q63 := (And.intro ty94 (And.intro ty107 (And.intro ty66 (And.intro ty3 (And.intro ty68 (And.intro ty28 (And.intro ty29 (And.intro ty24 ty26))))))))
def q64 := (And.intro ty107 (And.intro ty26 (And.intro ty29 ty3)))
def q65 := (And.intro ty28 (And.intro ty3 (And.intro ty26 (And.intro ty24 (And.intro ty133 (And.intro ty22 (And.intro ty41 ty123)))))))
def q66 := (And.intro ty31 (And.intro ty29 (And.intro ty3 (And.intro ty133 ty41))))
def q69 := (And.intro ty94 (And.intro ty29 (And.intro ty3 (And.intro ty28 (And.intro ty24 ty26)))))
def q72 := (And.intro ty84 (And.intro ty29 ty3))
def q74 := (And.intro ty29 ty3)
def q76 := (And.intro ty29 (And.intro ty3 (And.intro ty133 ty41)))
def q77 := (And.intro ty26 (And.intro ty3 (And.intro ty133 ty41)))
def q79 := (And.intro ty24 (And.intro ty22 ty123))
def q81 := (And.intro ty26 (And.intro ty79 ty3))
def q82 := (And.intro ty26 (And.intro ty79 ty3))
def q83 := (And.intro ty28 (And.intro ty31 (And.intro ty66 (And.intro ty3 (And.intro ty68 (And.intro ty24 (And.intro ty26 (And.intro ty29 ty22))))))))
def q84 := (And.intro ty96 (And.intro ty29 (And.intro ty34 (And.intro ty32 (And.intro ty3 (And.intro ty94 (And.intro ty26 ty28)))))))
def q85 := (And.intro ty29 ty3)
def q86 := (And.intro ty3 (And.intro ty32 ty29))
def q87 := (And.intro ty32 (And.intro ty3 ty29))
def q88 := (And.intro ty29 ty3)
def q89 := (And.intro ty94 (And.intro ty107 (And.intro ty3 (And.intro ty29 (And.intro ty28 (And.intro ty26 (And.intro ty24 ty22)))))))
def q91 := (And.intro ty24 (And.intro ty22 ty123))
def q94 := (And.intro ty29 ty3)
def q95 := (And.intro ty94 (And.intro ty3 (And.intro ty28 (And.intro ty24 ty26))))
def q96 := (And.intro ty94 (And.intro ty3 (And.intro ty28 (And.intro ty24 ty26))))
def q97 := (And.intro ty94 (And.intro ty29 (And.intro ty3 (And.intro ty28 (And.intro ty24 (And.intro ty26 ty22))))))
def q98 := (And.intro ty66 (And.intro ty3 ty68))
def q99 := (And.intro ty84 (And.intro ty29 (And.intro ty3 (And.intro ty133 ty41))))
def q100 := (And.intro ty24 (And.intro ty22 (And.intro ty3 ty123)))
def q101 := (And.intro ty31 (And.intro ty29 (And.intro ty3 (And.intro ty26 ty79))))
def q102 := (And.intro ty28 (And.intro ty79 (And.intro ty3 (And.intro ty26 (And.intro ty29 (And.intro ty78 (And.intro ty24 ty22)))))))
def q104 := (And.intro ty24 (And.intro ty22 (And.intro ty3 (And.intro ty133 (And.intro ty41 ty123)))))
def q105 := (And.intro ty29 ty3)
def q107 := (And.intro ty94 (And.intro ty28 (And.intro ty24 (And.intro ty3 (And.intro ty26 (And.intro ty22 ty123))))))
def q108 := (And.intro ty66 (And.intro ty3 ty68))
def q109 := (And.intro ty68 ty3)
def q111 := (And.intro ty28 (And.intro ty78 (And.intro ty3 (And.intro ty24 (And.intro ty26 (And.intro ty22 ty123))))))
def q112 := (And.intro ty28 (And.intro ty78 (And.intro ty3 (And.intro ty24 (And.intro ty26 (And.intro ty22 ty123))))))
def q113 := (And.intro ty28 (And.intro ty29 (And.intro ty3 (And.intro ty24 (And.intro ty26 ty22)))))
def q114 := (And.intro ty24 (And.intro ty3 (And.intro ty22 ty123)))
def q115 := (And.intro ty24 (And.intro ty22 (And.intro ty123 ty3)))
def q116 := ty3
def q117 := (And.intro ty22 (And.intro ty3 ty123))
def q118 := (And.intro ty123 ty3)
end Go.Vm
