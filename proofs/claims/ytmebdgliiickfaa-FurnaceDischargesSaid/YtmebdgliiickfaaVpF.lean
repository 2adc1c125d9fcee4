import Derived.Test.YtmebdgliiickfaaVmBC
import Derived.Test.YtmebdgliiickfaaProg
set_option linter.all false
/- What the program's types are. Printed by VmFacts.lean. -/
namespace Go.Vm
open Go.Proofs
set_option maxRecDepth 20000
set_option maxHeartbeats 8000000
def Γ0 : Nat → Option (List V) := fun _ => none
abbrev Sp0 : FuncId → List V → R → Prop := Spec Try.prog Γ0
abbrev nn (n : Int) : V := .i .i64 n
theorem mixed : Try.prog.follows .mixedOrders = true := by decide +kernel
theorem wr64 {n : Int} (h1 : -9223372036854775808 ≤ n) (h2 : n ≤ 9223372036854775807) : IntKind.wrap .i64 n = n := by
  simp [IntKind.wrap, IntKind.signed, IntKind.bits] <;> (try split) <;> omega
theorem mapnn {xs : List Int} : (∀ y, y ∈ List.map nn xs → y.cells.length = 1) = True := by
  simp only [List.mem_map, eq_iff_iff, iff_true]; rintro y ⟨a, _, rfl⟩; rfl
abbrev p2 (p : Int × Int) : V := .agg [nn p.1, nn p.2]
theorem mapp2 {xs : List (Int × Int)} : (∀ y, y ∈ List.map p2 xs → y.cells.length = 2) = True := by
  simp only [List.mem_map, eq_iff_iff, iff_true]; rintro y ⟨a, _, rfl⟩; rfl
theorem maxB : maxBytes = 1099511627776 := rfl
theorem mapDrop {α : Type} {f : α → V} {xs : List α} {n : Nat} : (xs.map f).drop n = (xs.drop n).map f := by rw [List.map_drop]
theorem mapTake {α : Type} {f : α → V} {xs : List α} {n : Nat} : (xs.map f).take n = (xs.take n).map f := by rw [List.map_take]
theorem mapApp {α : Type} {f : α → V} {xs ys : List α} : xs.map f ++ ys.map f = (xs ++ ys).map f := by rw [List.map_append]
theorem mapSnoc {xs : List Int} {y : Int} : xs.map nn ++ [V.i .i64 y] = (xs ++ [y]).map nn := by rw [List.map_append]; rfl
theorem mapSnoc2 {xs : List (Int × Int)} {y z : Int} : xs.map p2 ++ [V.agg [V.i .i64 y, V.i .i64 z]] = (xs ++ [(y, z)]).map p2 := by rw [List.map_append]; rfl
theorem mapRep {n : Nat} {a : Int} : List.replicate n (V.i .i64 a) = (List.replicate n a).map nn := by rw [List.map_replicate]
theorem mapSet {xs : List Int} {n : Nat} {a : Int} : (xs.map nn).set n (V.i .i64 a) = (xs.set n a).map nn := by rw [List.map_set]
theorem isNil_nn {σ : VS} {x : Int} {xs : List Int} : isNil σ (.p (.sl ((x :: xs).map nn))) = some false := rfl
theorem cast0' : ((0 : Nat) : Int) = 0 := rfl
theorem castPred {i : Nat} : ((i : Int) - 1).toNat = i - 1 := by omega
theorem castSucc {i : Nat} : ((i : Int) + 1).toNat = i + 1 := by omega
theorem toNat0 : Int.toNat 0 = 0 := rfl
def vp := And.intro @toNat0 <| And.intro @castPred <| And.intro @castSucc <| And.intro @mapnn (And.intro @mapp2 (And.intro @maxB (And.intro @mapDrop (And.intro @mapTake (And.intro @mapApp (And.intro @mapSnoc (And.intro @mapSnoc2 (And.intro @mapRep (And.intro @mapSet (And.intro @isNil_nn @cast0'))))))))))
theorem ta3 : szq Try.prog 3 = some 1 ∧ byq Try.prog 3 = some 8 ∧ agq Try.prog 3 = some false ∧ arq Try.prog 3 = none := by decide +kernel
theorem tz3 : zeq Try.prog 3 = some [.p (.i .i64 0)] := by rfl
theorem tu3 : Try.prog.underlying 3 = some (.int .i64) := by rfl
def ty3 := (And.intro ta3 (And.intro tz3 tu3))
theorem ta22 : szq Try.prog 22 = some 1 ∧ byq Try.prog 22 = some 24 ∧ agq Try.prog 22 = some false ∧ elq Try.prog 22 = some 160 ∧ arq Try.prog 22 = none := by decide +kernel
theorem tz22 : zeq Try.prog 22 = some [.nilS] := by rfl
def ty22 := (And.intro ta22 tz22)
theorem ta24 : szq Try.prog 24 = some 1 ∧ byq Try.prog 24 = some 24 ∧ agq Try.prog 24 = some true ∧ arq Try.prog 24 = none ∧ flq Try.prog 24 0 = some (22, 0, 1) ∧ plq Try.prog 24 = some [(0, 1)] := by decide +kernel
theorem tz24 : zeq Try.prog 24 = some [.nilS] := by rfl
def ty24 := (And.intro ta24 tz24)
theorem ta26 : szq Try.prog 26 = some 2 ∧ byq Try.prog 26 = some 16 ∧ agq Try.prog 26 = some true ∧ arq Try.prog 26 = none ∧ flq Try.prog 26 0 = some (3, 0, 1) ∧ flq Try.prog 26 1 = some (3, 1, 1) ∧ plq Try.prog 26 = some [(0, 1), (1, 1)] ∧ cmpq Try.prog 26 = some [1, 1] := by decide +kernel
theorem tz26 : zeq Try.prog 26 = some [.p (.i .i64 0), .p (.i .i64 0)] := by rfl
def ty26 := (And.intro ta26 tz26)
theorem ta28 : szq Try.prog 28 = some 4 ∧ byq Try.prog 28 = some 48 ∧ agq Try.prog 28 = some true ∧ arq Try.prog 28 = none ∧ flq Try.prog 28 0 = some (24, 0, 1) ∧ flq Try.prog 28 1 = some (3, 1, 1) ∧ flq Try.prog 28 2 = some (26, 2, 2) ∧ plq Try.prog 28 = some [(0, 1), (1, 1), (2, 2)] := by decide +kernel
theorem tz28 : zeq Try.prog 28 = some [.nilS, .p (.i .i64 0), .p (.i .i64 0), .p (.i .i64 0)] := by rfl
def ty28 := (And.intro ta28 tz28)
theorem ta29 : szq Try.prog 29 = some 1 ∧ byq Try.prog 29 = some 24 ∧ agq Try.prog 29 = some false ∧ elq Try.prog 29 = some 3 ∧ arq Try.prog 29 = none := by decide +kernel
theorem tz29 : zeq Try.prog 29 = some [.nilS] := by rfl
def ty29 := (And.intro ta29 tz29)
theorem ta31 : szq Try.prog 31 = some 2 ∧ byq Try.prog 31 = some 32 ∧ agq Try.prog 31 = some true ∧ arq Try.prog 31 = none ∧ flq Try.prog 31 0 = some (29, 0, 1) ∧ flq Try.prog 31 1 = some (3, 1, 1) ∧ plq Try.prog 31 = some [(0, 1), (1, 1)] := by decide +kernel
theorem tz31 : zeq Try.prog 31 = some [.nilS, .p (.i .i64 0)] := by rfl
def ty31 := (And.intro ta31 tz31)
theorem ta33 : szq Try.prog 33 = some 7 ∧ byq Try.prog 33 = some 88 ∧ agq Try.prog 33 = some true ∧ arq Try.prog 33 = none ∧ flq Try.prog 33 0 = some (31, 0, 2) ∧ flq Try.prog 33 1 = some (31, 2, 2) ∧ flq Try.prog 33 2 = some (3, 4, 1) ∧ flq Try.prog 33 3 = some (3, 5, 1) ∧ flq Try.prog 33 4 = some (3, 6, 1) ∧ plq Try.prog 33 = some [(0, 2), (2, 2), (4, 1), (5, 1), (6, 1)] := by decide +kernel
theorem tz33 : zeq Try.prog 33 = some [.nilS, .p (.i .i64 0), .nilS, .p (.i .i64 0), .p (.i .i64 0), .p (.i .i64 0), .p (.i .i64 0)] := by rfl
def ty33 := (And.intro ta33 tz33)
theorem ta39 : szq Try.prog 39 = some 1 ∧ byq Try.prog 39 = some 8 ∧ agq Try.prog 39 = some false ∧ arq Try.prog 39 = none := by decide +kernel
theorem tz39 : zeq Try.prog 39 = some [.p (.i .i64 0)] := by rfl
theorem tu39 : Try.prog.underlying 39 = some (.int .i64) := by rfl
def ty39 := (And.intro ta39 (And.intro tz39 tu39))
theorem ta45 : szq Try.prog 45 = some 2 ∧ byq Try.prog 45 = some 16 ∧ agq Try.prog 45 = some true ∧ arq Try.prog 45 = none ∧ flq Try.prog 45 0 = some (3, 0, 1) ∧ flq Try.prog 45 1 = some (3, 1, 1) ∧ plq Try.prog 45 = some [(0, 1), (1, 1)] ∧ cmpq Try.prog 45 = some [1, 1] := by decide +kernel
theorem tz45 : zeq Try.prog 45 = some [.p (.i .i64 0), .p (.i .i64 0)] := by rfl
def ty45 := (And.intro ta45 tz45)
theorem ta60 : szq Try.prog 60 = some 2 ∧ byq Try.prog 60 = some 32 ∧ agq Try.prog 60 = some true ∧ arq Try.prog 60 = none ∧ flq Try.prog 60 0 = some (29, 0, 1) ∧ flq Try.prog 60 1 = some (3, 1, 1) ∧ plq Try.prog 60 = some [(0, 1), (1, 1)] := by decide +kernel
theorem tz60 : zeq Try.prog 60 = some [.nilS, .p (.i .i64 0)] := by rfl
def ty60 := (And.intro ta60 tz60)
theorem ta67 : szq Try.prog 67 = some 2 ∧ byq Try.prog 67 = some 16 ∧ agq Try.prog 67 = some true ∧ arq Try.prog 67 = none ∧ flq Try.prog 67 0 = some (3, 0, 1) ∧ flq Try.prog 67 1 = some (3, 1, 1) ∧ plq Try.prog 67 = some [(0, 1), (1, 1)] ∧ cmpq Try.prog 67 = some [1, 1] := by decide +kernel
theorem tz67 : zeq Try.prog 67 = some [.p (.i .i64 0), .p (.i .i64 0)] := by rfl
def ty67 := (And.intro ta67 tz67)
theorem ta80 : szq Try.prog 80 = some 1 ∧ byq Try.prog 80 = some 24 ∧ agq Try.prog 80 = some false ∧ elq Try.prog 80 = some 120 ∧ arq Try.prog 80 = none := by decide +kernel
theorem tz80 : zeq Try.prog 80 = some [.nilS] := by rfl
def ty80 := (And.intro ta80 tz80)
theorem ta105 : szq Try.prog 105 = some 3 ∧ byq Try.prog 105 = some 40 ∧ agq Try.prog 105 = some true ∧ arq Try.prog 105 = none ∧ flq Try.prog 105 0 = some (80, 0, 1) ∧ flq Try.prog 105 1 = some (26, 1, 2) ∧ plq Try.prog 105 = some [(0, 1), (1, 2)] := by decide +kernel
theorem tz105 : zeq Try.prog 105 = some [.nilS, .p (.i .i64 0), .p (.i .i64 0)] := by rfl
def ty105 := (And.intro ta105 tz105)
theorem ta106 : szq Try.prog 106 = some 1 ∧ byq Try.prog 106 = some 24 ∧ agq Try.prog 106 = some false ∧ elq Try.prog 106 = some 26 ∧ arq Try.prog 106 = none := by decide +kernel
theorem tz106 : zeq Try.prog 106 = some [.nilS] := by rfl
def ty106 := (And.intro ta106 tz106)
theorem ta120 : szq Try.prog 120 = some 2 ∧ byq Try.prog 120 = some 16 ∧ agq Try.prog 120 = some true ∧ arq Try.prog 120 = none ∧ flq Try.prog 120 0 = some (3, 0, 1) ∧ flq Try.prog 120 1 = some (3, 1, 1) ∧ plq Try.prog 120 = some [(0, 1), (1, 1)] ∧ cmpq Try.prog 120 = some [1, 1] := by decide +kernel
theorem tz120 : zeq Try.prog 120 = some [.p (.i .i64 0), .p (.i .i64 0)] := by rfl
def ty120 := (And.intro ta120 tz120)
theorem ta156 : szq Try.prog 156 = some 5 ∧ byq Try.prog 156 = some 56 ∧ agq Try.prog 156 = some true ∧ arq Try.prog 156 = none ∧ flq Try.prog 156 0 = some (28, 0, 4) ∧ flq Try.prog 156 1 = some (3, 4, 1) ∧ plq Try.prog 156 = some [(0, 4), (4, 1)] := by decide +kernel
theorem tz156 : zeq Try.prog 156 = some [.nilS, .p (.i .i64 0), .p (.i .i64 0), .p (.i .i64 0), .p (.i .i64 0)] := by rfl
def ty156 := (And.intro ta156 tz156)
theorem ta160 : szq Try.prog 160 = some 2 ∧ byq Try.prog 160 = some 16 ∧ agq Try.prog 160 = some true ∧ arq Try.prog 160 = none ∧ flq Try.prog 160 0 = some (3, 0, 1) ∧ flq Try.prog 160 1 = some (3, 1, 1) ∧ plq Try.prog 160 = some [(0, 1), (1, 1)] ∧ cmpq Try.prog 160 = some [1, 1] := by decide +kernel
theorem tz160 : zeq Try.prog 160 = some [.p (.i .i64 0), .p (.i .i64 0)] := by rfl
def ty160 := (And.intro ta160 tz160)
theorem ta179 : szq Try.prog 179 = some 2 ∧ byq Try.prog 179 = some 48 ∧ agq Try.prog 179 = some true ∧ arq Try.prog 179 = none ∧ flq Try.prog 179 0 = some (29, 0, 1) ∧ flq Try.prog 179 1 = some (29, 1, 1) ∧ plq Try.prog 179 = some [(0, 1), (1, 1)] := by decide +kernel
theorem tz179 : zeq Try.prog 179 = some [.nilS, .nilS] := by rfl
def ty179 := (And.intro ta179 tz179)
theorem ta205 : szq Try.prog 205 = some 1 ∧ byq Try.prog 205 = some 24 ∧ agq Try.prog 205 = some false ∧ elq Try.prog 205 = some 39 ∧ arq Try.prog 205 = none := by decide +kernel
theorem tz205 : zeq Try.prog 205 = some [.nilS] := by rfl
def ty205 := (And.intro ta205 tz205)
def q3 := (And.intro ty28 (And.intro ty33 (And.intro ty31 (And.intro ty3 (And.intro ty29 (And.intro ty45 (And.intro ty39 (And.intro ty24 (And.intro ty26 ty22)))))))))
def q4 := (And.intro ty24 (And.intro ty3 (And.intro ty39 (And.intro ty22 ty160))))
def q5 := (And.intro ty60 (And.intro ty29 (And.intro ty3 ty39)))
def q6 := (And.intro ty28 (And.intro ty31 (And.intro ty45 (And.intro ty67 (And.intro ty3 (And.intro ty39 (And.intro ty24 (And.intro ty26 (And.intro ty29 ty22)))))))))
def q11 := (And.intro ty28 (And.intro ty31 (And.intro ty105 (And.intro ty80 (And.intro ty3 (And.intro ty39 (And.intro ty120 (And.intro ty24 (And.intro ty26 (And.intro ty29 ty22))))))))))
def q15 := (And.intro ty45 (And.intro ty31 (And.intro ty120 (And.intro ty80 (And.intro ty29 (And.intro ty60 (And.intro ty39 (And.intro ty26 (And.intro ty106 ty3)))))))))
def q16 := (And.intro ty28 (And.intro ty31 (And.intro ty24 (And.intro ty29 (And.intro ty3 (And.intro ty26 (And.intro ty22 ty160)))))))
def q17 := (And.intro ty28 (And.intro ty31 (And.intro ty3 (And.intro ty24 (And.intro ty26 (And.intro ty29 ty22))))))
def q18 := (And.intro ty31 (And.intro ty29 ty3))
def q21 := (And.intro ty28 (And.intro ty31 (And.intro ty45 (And.intro ty3 (And.intro ty205 (And.intro ty39 (And.intro ty156 (And.intro ty29 (And.intro ty24 (And.intro ty26 ty22))))))))))
def q22 := (And.intro ty28 (And.intro ty24 (And.intro ty3 (And.intro ty26 (And.intro ty22 ty160)))))
def q23 := (And.intro ty31 (And.intro ty29 ty3))
def q25 := (And.intro ty29 ty3)
def q26 := (And.intro ty29 ty3)
def q27 := (And.intro ty24 (And.intro ty22 (And.intro ty3 ty160)))
def q28 := (And.intro ty24 (And.intro ty22 (And.intro ty3 (And.intro ty205 (And.intro ty39 ty160)))))
def q29 := (And.intro ty24 (And.intro ty22 (And.intro ty160 ty3)))
def q31 := (And.intro ty24 (And.intro ty22 (And.intro ty3 ty160)))
def q32 := (And.intro ty24 (And.intro ty22 (And.intro ty160 ty3)))
def q34 := (And.intro ty60 (And.intro ty205 (And.intro ty39 (And.intro ty3 ty29))))
def q38 := (And.intro ty28 (And.intro ty3 (And.intro ty26 (And.intro ty24 (And.intro ty205 (And.intro ty22 (And.intro ty39 ty160)))))))
def q39 := (And.intro ty28 (And.intro ty24 (And.intro ty3 (And.intro ty26 (And.intro ty22 ty160)))))
def q40 := (And.intro ty31 (And.intro ty29 (And.intro ty3 (And.intro ty205 ty39))))
def q44 := (And.intro ty60 (And.intro ty29 (And.intro ty3 (And.intro ty205 ty39))))
def q51 := (And.intro ty80 (And.intro ty3 ty120))
def q52 := (And.intro ty80 (And.intro ty120 ty3))
def q56 := (And.intro ty80 (And.intro ty3 ty120))
def q60 := (And.intro ty28 (And.intro ty31 (And.intro ty205 (And.intro ty39 (And.intro ty3 (And.intro ty156 (And.intro ty29 (And.intro ty179 (And.intro ty26 (And.intro ty106 (And.intro ty24 ty22)))))))))))
def q61 := (And.intro ty28 (And.intro ty31 (And.intro ty105 (And.intro ty39 (And.intro ty3 (And.intro ty156 (And.intro ty29 (And.intro ty80 (And.intro ty26 (And.intro ty24 (And.intro ty120 ty22)))))))))))
def q62 := (And.intro ty105 (And.intro ty80 (And.intro ty26 (And.intro ty120 ty3))))
def q64 := (And.intro ty106 (And.intro ty3 ty26))
def q65 := (And.intro ty28 (And.intro ty31 (And.intro ty80 (And.intro ty3 (And.intro ty120 (And.intro ty24 (And.intro ty26 (And.intro ty29 ty22))))))))
def q66 := (And.intro ty105 (And.intro ty80 (And.intro ty3 (And.intro ty26 ty120))))
def q69 := (And.intro ty28 (And.intro ty31 (And.intro ty105 (And.intro ty3 (And.intro ty39 (And.intro ty24 (And.intro ty26 (And.intro ty29 (And.intro ty80 (And.intro ty22 ty120))))))))))
def q70 := (And.intro ty28 (And.intro ty31 (And.intro ty105 (And.intro ty39 (And.intro ty3 (And.intro ty24 (And.intro ty26 (And.intro ty29 (And.intro ty80 (And.intro ty22 ty120))))))))))
def q71 := (And.intro ty28 (And.intro ty31 (And.intro ty105 (And.intro ty29 (And.intro ty3 (And.intro ty24 (And.intro ty26 (And.intro ty80 (And.intro ty22 ty120)))))))))
def q72 := (And.intro ty28 (And.intro ty31 (And.intro ty105 (And.intro ty29 (And.intro ty3 (And.intro ty24 (And.intro ty26 (And.intro ty80 (And.intro ty22 ty120)))))))))
def q88 := (And.intro ty28 (And.intro ty160 (And.intro ty22 (And.intro ty24 (And.intro ty26 ty3)))))
def q89 := (And.intro ty31 (And.intro ty29 ty3))
def q90 := (And.intro ty205 (And.intro ty3 ty39))
def q93 := (And.intro ty156 (And.intro ty29 (And.intro ty3 (And.intro ty28 (And.intro ty24 ty26)))))
def q97 := ty3
def q98 := (And.intro ty24 (And.intro ty22 ty160))
def q99 := (And.intro ty24 (And.intro ty3 (And.intro ty22 ty160)))
def q100 := (And.intro ty60 (And.intro ty29 ty3))
def q102 := (And.intro ty29 ty3)
def q105 := (And.intro ty24 (And.intro ty22 ty160))
def q106 := ty3
def q110 := (And.intro ty28 (And.intro ty45 (And.intro ty3 (And.intro ty24 (And.intro ty26 (And.intro ty22 ty160))))))
def q111 := (And.intro ty28 (And.intro ty45 (And.intro ty3 (And.intro ty24 (And.intro ty26 (And.intro ty22 ty160))))))
def q112 := (And.intro ty28 (And.intro ty29 (And.intro ty3 (And.intro ty24 (And.intro ty26 ty22)))))
def q113 := (And.intro ty29 ty3)
def q117 := (And.intro ty80 (And.intro ty3 ty120))
def q118 := (And.intro ty120 ty3)
def q122 := ty3
def q123 := ty3
def q126 := (And.intro ty156 (And.intro ty179 (And.intro ty80 (And.intro ty3 (And.intro ty120 (And.intro ty28 (And.intro ty29 (And.intro ty24 ty26))))))))
def q127 := (And.intro ty28 (And.intro ty31 (And.intro ty105 (And.intro ty80 (And.intro ty3 (And.intro ty26 (And.intro ty205 (And.intro ty24 (And.intro ty29 (And.intro ty120 (And.intro ty39 ty22)))))))))))
def q128 := (And.intro ty179 (And.intro ty26 (And.intro ty29 ty3)))
def q129 := (And.intro ty31 (And.intro ty29 (And.intro ty3 (And.intro ty26 ty106))))
def q130 := (And.intro ty28 (And.intro ty106 (And.intro ty3 (And.intro ty26 (And.intro ty29 (And.intro ty45 (And.intro ty24 ty22)))))))
def q131 := (And.intro ty26 ty3)
def q132 := (And.intro ty26 (And.intro ty106 ty3))
def q134 := (And.intro ty28 (And.intro ty31 (And.intro ty105 (And.intro ty80 (And.intro ty3 (And.intro ty26 (And.intro ty29 (And.intro ty120 (And.intro ty24 ty22)))))))))
def q145 := (And.intro ty179 (And.intro ty26 (And.intro ty29 ty3)))
def q147 := (And.intro ty179 (And.intro ty26 (And.intro ty29 ty3)))
def q151 := (And.intro ty179 (And.intro ty26 (And.intro ty29 ty3)))
def q155 := (And.intro ty29 ty3)
def q156 := (And.intro ty156 (And.intro ty3 (And.intro ty28 (And.intro ty24 ty26))))
def q157 := (And.intro ty156 (And.intro ty3 (And.intro ty28 (And.intro ty24 ty26))))
def q158 := (And.intro ty156 (And.intro ty29 (And.intro ty3 (And.intro ty28 (And.intro ty24 (And.intro ty26 ty22))))))
def q159 := (And.intro ty22 (And.intro ty3 ty160))
def q160 := (And.intro ty160 ty3)
def q162 := (And.intro ty156 (And.intro ty179 (And.intro ty3 (And.intro ty29 (And.intro ty28 (And.intro ty26 (And.intro ty24 ty22)))))))
def q163 := (And.intro ty26 (And.intro ty3 (And.intro ty205 ty39)))
def q164 := (And.intro ty28 (And.intro ty31 (And.intro ty3 (And.intro ty156 (And.intro ty29 (And.intro ty105 (And.intro ty80 (And.intro ty179 (And.intro ty26 (And.intro ty120 (And.intro ty24 ty22)))))))))))
def q169 := (And.intro ty29 ty3)
def q172 := (And.intro ty29 ty3)
def q173 := (And.intro ty156 (And.intro ty28 (And.intro ty24 (And.intro ty3 (And.intro ty26 (And.intro ty22 ty160))))))
end Go.Vm
