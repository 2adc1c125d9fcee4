import Derived.Test.YtfmkfaohhpmpaaaGreatDoorVmBC
import Derived.Test.YtfmkfaohhpmpaaaGreatDoorProg
set_option linter.all false
/- What the program's types are. Printed by VmFacts.lean. -/
namespace Go.Vm
open Go.Proofs
set_option maxRecDepth 20000
set_option maxHeartbeats 8000000
def Γ0 : Nat → Option (List V) := fun _ => none
abbrev Sp0 : FuncId → List V → R → Prop := Spec Tryz.prog Γ0
abbrev nn (n : Int) : V := .i .i64 n
abbrev bb (b : Bool) : V := .b b
theorem mixed : Tryz.prog.follows .mixedOrders = true := by decide +kernel
theorem wr64 {n : Int} (h1 : -9223372036854775808 ≤ n) (h2 : n ≤ 9223372036854775807) : IntKind.wrap .i64 n = n := by
  simp [IntKind.wrap, IntKind.signed, IntKind.bits] <;> (try split) <;> omega
theorem mapnn {xs : List Int} : (∀ y, y ∈ List.map nn xs → y.cells.length = 1) = True := by
  simp only [List.mem_map, eq_iff_iff, iff_true]; rintro y ⟨a, _, rfl⟩; rfl
abbrev p2 (p : Int × Int) : V := .agg [nn p.1, nn p.2]
theorem mapp2 {xs : List (Int × Int)} : (∀ y, y ∈ List.map p2 xs → y.cells.length = 2) = True := by
  simp only [List.mem_map, eq_iff_iff, iff_true]; rintro y ⟨a, _, rfl⟩; rfl
theorem maxB : maxBytes = 1099511627776 := rfl
theorem mapDrop {α : Type} {f : α → V} {xs : List α} {n : Nat} : (xs.map f).drop n = (xs.drop n).map f := by rw [List.map_drop]
theorem mapTake {α : Type} {f : α → V} {xs : List α} {n : Nat} : (xs.map f).take n = (xs.take n).map f := by rw [List.map_take]
theorem mapApp {α : Type} {f : α → V} {xs ys : List α} : xs.map f ++ ys.map f = (xs ++ ys).map f := by rw [List.map_append]
theorem mapSnoc {xs : List Int} {y : Int} : xs.map nn ++ [V.i .i64 y] = (xs ++ [y]).map nn := by rw [List.map_append]; rfl
theorem mapSnoc2 {xs : List (Int × Int)} {y z : Int} : xs.map p2 ++ [V.agg [V.i .i64 y, V.i .i64 z]] = (xs ++ [(y, z)]).map p2 := by rw [List.map_append]; rfl
theorem mapRep {n : Nat} {a : Int} : List.replicate n (V.i .i64 a) = (List.replicate n a).map nn := by rw [List.map_replicate]
theorem mapSet {xs : List Int} {n : Nat} {a : Int} : (xs.map nn).set n (V.i .i64 a) = (xs.set n a).map nn := by rw [List.map_set]
theorem isNil_nn {σ : VS} {x : Int} {xs : List Int} : isNil σ (.p (.sl ((x :: xs).map nn))) = some false := rfl
theorem cast0' : ((0 : Nat) : Int) = 0 := rfl
theorem castPred {i : Nat} : ((i : Int) - 1).toNat = i - 1 := by omega
theorem castSucc {i : Nat} : ((i : Int) + 1).toNat = i + 1 := by omega
theorem toNat0 : Int.toNat 0 = 0 := rfl
theorem winM_0 : winM Γ0 = false := Eq.trans rfl rfl
def vp := And.intro @winM_0 <| And.intro (@Option.map_none.{0, 0}) <| And.intro @toNat0 <| And.intro @castPred <| And.intro @castSucc <| And.intro @mapnn (And.intro @mapp2 (And.intro @maxB (And.intro @mapDrop (And.intro @mapTake (And.intro @mapApp (And.intro @mapSnoc (And.intro @mapSnoc2 (And.intro @mapRep (And.intro @mapSet (And.intro @isNil_nn @cast0'))))))))))
theorem ta3 : szq Tryz.prog 3 = some 1 ∧ byq Tryz.prog 3 = some 8 ∧ agq Tryz.prog 3 = some false ∧ arq Tryz.prog 3 = none := by decide +kernel
theorem tz3 : zeq Tryz.prog 3 = some [.p (.i .i64 0)] := by rfl
theorem tu3 : Tryz.prog.underlying 3 = some (.int .i64) := by rfl
def ty3 := (And.intro ta3 (And.intro tz3 tu3))
theorem ta4 : szq Tryz.prog 4 = some 1 ∧ byq Tryz.prog 4 = some 1 ∧ agq Tryz.prog 4 = some false ∧ arq Tryz.prog 4 = none ∧ isBool Tryz.prog 4 = true := by decide +kernel
theorem tz4 : zeq Tryz.prog 4 = some [.p (.b false)] := by rfl
def ty4 := (And.intro ta4 tz4)
theorem ta9 : szq Tryz.prog 9 = some 1 ∧ byq Tryz.prog 9 = some 16 ∧ agq Tryz.prog 9 = some false ∧ arq Tryz.prog 9 = none ∧ isStr Tryz.prog 9 = true := by decide +kernel
theorem tz9 : zeq Tryz.prog 9 = some [.p (.s ByteArray.empty)] := by rfl
theorem tu9 : Tryz.prog.underlying 9 = some .string := by rfl
def ty9 := (And.intro ta9 (And.intro tz9 tu9))
theorem ta22 : szq Tryz.prog 22 = some 1 ∧ byq Tryz.prog 22 = some 24 ∧ agq Tryz.prog 22 = some false ∧ elq Tryz.prog 22 = some 115 ∧ arq Tryz.prog 22 = none := by decide +kernel
theorem tz22 : zeq Tryz.prog 22 = some [.nilS] := by rfl
def ty22 := (And.intro ta22 tz22)
theorem ta24 : szq Tryz.prog 24 = some 3 ∧ byq Tryz.prog 24 = some 40 ∧ agq Tryz.prog 24 = some true ∧ arq Tryz.prog 24 = none ∧ flq Tryz.prog 24 0 = some (3, 0, 1) ∧ flq Tryz.prog 24 1 = some (3, 1, 1) ∧ flq Tryz.prog 24 2 = some (22, 2, 1) ∧ plq Tryz.prog 24 = some [(0, 1), (1, 1), (2, 1)] := by decide +kernel
theorem tz24 : zeq Tryz.prog 24 = some [.p (.i .i64 0), .p (.i .i64 0), .nilS] := by rfl
def ty24 := (And.intro ta24 tz24)
theorem ta25 : szq Tryz.prog 25 = some 1 ∧ byq Tryz.prog 25 = some 24 ∧ agq Tryz.prog 25 = some false ∧ elq Tryz.prog 25 = some 59 ∧ arq Tryz.prog 25 = none := by decide +kernel
theorem tz25 : zeq Tryz.prog 25 = some [.nilS] := by rfl
def ty25 := (And.intro ta25 tz25)
theorem ta27 : szq Tryz.prog 27 = some 2 ∧ byq Tryz.prog 27 = some 48 ∧ agq Tryz.prog 27 = some true ∧ arq Tryz.prog 27 = none ∧ flq Tryz.prog 27 0 = some (25, 0, 1) ∧ flq Tryz.prog 27 1 = some (25, 1, 1) ∧ plq Tryz.prog 27 = some [(0, 1), (1, 1)] := by decide +kernel
theorem tz27 : zeq Tryz.prog 27 = some [.nilS, .nilS] := by rfl
def ty27 := (And.intro ta27 tz27)
theorem ta29 : szq Tryz.prog 29 = some 2 ∧ byq Tryz.prog 29 = some 16 ∧ agq Tryz.prog 29 = some true ∧ arq Tryz.prog 29 = none ∧ flq Tryz.prog 29 0 = some (3, 0, 1) ∧ flq Tryz.prog 29 1 = some (3, 1, 1) ∧ plq Tryz.prog 29 = some [(0, 1), (1, 1)] ∧ cmpq Tryz.prog 29 = some [1, 1] := by decide +kernel
theorem tz29 : zeq Tryz.prog 29 = some [.p (.i .i64 0), .p (.i .i64 0)] := by rfl
def ty29 := (And.intro ta29 tz29)
theorem ta30 : szq Tryz.prog 30 = some 1 ∧ byq Tryz.prog 30 = some 24 ∧ agq Tryz.prog 30 = some false ∧ elq Tryz.prog 30 = some 47 ∧ arq Tryz.prog 30 = none := by decide +kernel
theorem tz30 : zeq Tryz.prog 30 = some [.nilS] := by rfl
def ty30 := (And.intro ta30 tz30)
theorem ta32 : szq Tryz.prog 32 = some 3 ∧ byq Tryz.prog 32 = some 40 ∧ agq Tryz.prog 32 = some true ∧ arq Tryz.prog 32 = none ∧ flq Tryz.prog 32 0 = some (29, 0, 2) ∧ flq Tryz.prog 32 1 = some (30, 2, 1) ∧ plq Tryz.prog 32 = some [(0, 2), (2, 1)] := by decide +kernel
theorem tz32 : zeq Tryz.prog 32 = some [.p (.i .i64 0), .p (.i .i64 0), .nilS] := by rfl
def ty32 := (And.intro ta32 tz32)
theorem ta36 : szq Tryz.prog 36 = some 1 ∧ byq Tryz.prog 36 = some 8 ∧ agq Tryz.prog 36 = some false ∧ arq Tryz.prog 36 = none := by decide +kernel
theorem tz36 : zeq Tryz.prog 36 = some [.p (.i .i64 0)] := by rfl
theorem tu36 : Tryz.prog.underlying 36 = some (.int .i64) := by rfl
def ty36 := (And.intro ta36 (And.intro tz36 tu36))
theorem ta47 : szq Tryz.prog 47 = some 1 ∧ byq Tryz.prog 47 = some 24 ∧ agq Tryz.prog 47 = some false ∧ elq Tryz.prog 47 = some 3 ∧ arq Tryz.prog 47 = none := by decide +kernel
theorem tz47 : zeq Tryz.prog 47 = some [.nilS] := by rfl
def ty47 := (And.intro ta47 tz47)
theorem ta49 : szq Tryz.prog 49 = some 4 ∧ byq Tryz.prog 49 = some 64 ∧ agq Tryz.prog 49 = some true ∧ arq Tryz.prog 49 = none ∧ flq Tryz.prog 49 0 = some (32, 0, 3) ∧ flq Tryz.prog 49 1 = some (47, 3, 1) ∧ plq Tryz.prog 49 = some [(0, 3), (3, 1)] := by decide +kernel
theorem tz49 : zeq Tryz.prog 49 = some [.p (.i .i64 0), .p (.i .i64 0), .nilS, .nilS] := by rfl
def ty49 := (And.intro ta49 tz49)
theorem ta59 : szq Tryz.prog 59 = some 2 ∧ byq Tryz.prog 59 = some 16 ∧ agq Tryz.prog 59 = some true ∧ arq Tryz.prog 59 = none ∧ flq Tryz.prog 59 0 = some (3, 0, 1) ∧ flq Tryz.prog 59 1 = some (3, 1, 1) ∧ plq Tryz.prog 59 = some [(0, 1), (1, 1)] ∧ cmpq Tryz.prog 59 = some [1, 1] := by decide +kernel
theorem tz59 : zeq Tryz.prog 59 = some [.p (.i .i64 0), .p (.i .i64 0)] := by rfl
def ty59 := (And.intro ta59 tz59)
theorem ta65 : szq Tryz.prog 65 = some 1 ∧ byq Tryz.prog 65 = some 24 ∧ agq Tryz.prog 65 = some false ∧ elq Tryz.prog 65 = some 25 ∧ arq Tryz.prog 65 = none := by decide +kernel
theorem tz65 : zeq Tryz.prog 65 = some [.nilS] := by rfl
def ty65 := (And.intro ta65 tz65)
theorem ta67 : szq Tryz.prog 67 = some 1 ∧ byq Tryz.prog 67 = some 24 ∧ agq Tryz.prog 67 = some true ∧ arq Tryz.prog 67 = none ∧ flq Tryz.prog 67 0 = some (65, 0, 1) ∧ plq Tryz.prog 67 = some [(0, 1)] := by decide +kernel
theorem tz67 : zeq Tryz.prog 67 = some [.nilS] := by rfl
def ty67 := (And.intro ta67 tz67)
theorem ta72 : szq Tryz.prog 72 = some 2 ∧ byq Tryz.prog 72 = some 16 ∧ agq Tryz.prog 72 = some true ∧ arq Tryz.prog 72 = none ∧ flq Tryz.prog 72 0 = some (3, 0, 1) ∧ flq Tryz.prog 72 1 = some (4, 1, 1) ∧ plq Tryz.prog 72 = some [(0, 1), (1, 1)] ∧ cmpq Tryz.prog 72 = some [1, 0] := by decide +kernel
theorem tz72 : zeq Tryz.prog 72 = some [.p (.i .i64 0), .p (.b false)] := by rfl
def ty72 := (And.intro ta72 tz72)
theorem ta73 : szq Tryz.prog 73 = some 1 ∧ byq Tryz.prog 73 = some 24 ∧ agq Tryz.prog 73 = some false ∧ elq Tryz.prog 73 = some 72 ∧ arq Tryz.prog 73 = none := by decide +kernel
theorem tz73 : zeq Tryz.prog 73 = some [.nilS] := by rfl
def ty73 := (And.intro ta73 tz73)
theorem ta78 : szq Tryz.prog 78 = some 3 ∧ byq Tryz.prog 78 = some 40 ∧ agq Tryz.prog 78 = some true ∧ arq Tryz.prog 78 = none ∧ flq Tryz.prog 78 0 = some (24, 0, 3) ∧ plq Tryz.prog 78 = some [(0, 3)] := by decide +kernel
theorem tz78 : zeq Tryz.prog 78 = some [.p (.i .i64 0), .p (.i .i64 0), .nilS] := by rfl
def ty78 := (And.intro ta78 tz78)
theorem ta80 : szq Tryz.prog 80 = some 5 ∧ byq Tryz.prog 80 = some 88 ∧ agq Tryz.prog 80 = some true ∧ arq Tryz.prog 80 = none ∧ flq Tryz.prog 80 0 = some (78, 0, 3) ∧ flq Tryz.prog 80 1 = some (27, 3, 2) ∧ plq Tryz.prog 80 = some [(0, 3), (3, 2)] := by decide +kernel
theorem tz80 : zeq Tryz.prog 80 = some [.p (.i .i64 0), .p (.i .i64 0), .nilS, .nilS, .nilS] := by rfl
def ty80 := (And.intro ta80 tz80)
theorem ta93 : szq Tryz.prog 93 = some 2 ∧ byq Tryz.prog 93 = some 16 ∧ agq Tryz.prog 93 = some true ∧ arq Tryz.prog 93 = none ∧ flq Tryz.prog 93 0 = some (29, 0, 2) ∧ plq Tryz.prog 93 = some [(0, 2)] ∧ cmpq Tryz.prog 93 = some [1, 1] := by decide +kernel
theorem tz93 : zeq Tryz.prog 93 = some [.p (.i .i64 0), .p (.i .i64 0)] := by rfl
def ty93 := (And.intro ta93 tz93)
theorem ta111 : szq Tryz.prog 111 = some 1 ∧ byq Tryz.prog 111 = some 8 ∧ agq Tryz.prog 111 = some false ∧ arq Tryz.prog 111 = none := by decide +kernel
theorem tz111 : zeq Tryz.prog 111 = some [.p (.i .u64 0)] := by rfl
theorem tu111 : Tryz.prog.underlying 111 = some (.int .u64) := by rfl
def ty111 := (And.intro ta111 (And.intro tz111 tu111))
theorem ta115 : szq Tryz.prog 115 = some 3 ∧ byq Tryz.prog 115 = some 24 ∧ agq Tryz.prog 115 = some true ∧ arq Tryz.prog 115 = none ∧ flq Tryz.prog 115 0 = some (59, 0, 2) ∧ flq Tryz.prog 115 1 = some (3, 2, 1) ∧ plq Tryz.prog 115 = some [(0, 2), (2, 1)] ∧ cmpq Tryz.prog 115 = some [1, 1, 1] := by decide +kernel
theorem tz115 : zeq Tryz.prog 115 = some [.p (.i .i64 0), .p (.i .i64 0), .p (.i .i64 0)] := by rfl
def ty115 := (And.intro ta115 tz115)
theorem ta126 : szq Tryz.prog 126 = some 1 ∧ byq Tryz.prog 126 = some 24 ∧ agq Tryz.prog 126 = some false ∧ elq Tryz.prog 126 = some 36 ∧ arq Tryz.prog 126 = none := by decide +kernel
theorem tz126 : zeq Tryz.prog 126 = some [.nilS] := by rfl
def ty126 := (And.intro ta126 tz126)
def q3 := (And.intro ty24 (And.intro ty27 (And.intro ty32 (And.intro ty3 (And.intro ty29 (And.intro ty22 (And.intro ty25 (And.intro ty30 (And.intro ty115 (And.intro ty59 ty47))))))))))
def q4 := (And.intro ty24 (And.intro ty27 (And.intro ty49 (And.intro ty32 (And.intro ty47 (And.intro ty3 (And.intro ty29 (And.intro ty36 (And.intro ty22 (And.intro ty25 (And.intro ty30 (And.intro ty115 ty59))))))))))))
def q5 := (And.intro ty59 (And.intro ty29 (And.intro ty47 (And.intro ty67 (And.intro ty72 (And.intro ty73 (And.intro ty36 (And.intro ty3 (And.intro ty9 (And.intro ty65 (And.intro ty4 ty25)))))))))))
def q6 := (And.intro ty24 (And.intro ty27 (And.intro ty25 (And.intro ty3 (And.intro ty22 (And.intro ty59 ty115))))))
def q7 := (And.intro ty32 (And.intro ty30 (And.intro ty3 (And.intro ty47 ty29))))
def q8 := (And.intro ty24 (And.intro ty27 (And.intro ty32 (And.intro ty80 (And.intro ty36 (And.intro ty30 (And.intro ty29 (And.intro ty25 (And.intro ty3 (And.intro ty126 (And.intro ty93 (And.intro ty47 (And.intro ty22 (And.intro ty78 (And.intro ty59 ty115)))))))))))))))
def q9 := (And.intro ty24 (And.intro ty22 (And.intro ty3 (And.intro ty115 ty59))))
def q10 := (And.intro ty27 (And.intro ty25 (And.intro ty59 ty3)))
def q11 := (And.intro ty32 (And.intro ty29 (And.intro ty30 (And.intro ty3 ty47))))
def q12 := (And.intro ty24 (And.intro ty27 (And.intro ty3 (And.intro ty22 (And.intro ty25 (And.intro ty115 ty59))))))
def q13 := (And.intro ty29 ty3)
def q14 := (And.intro ty24 (And.intro ty27 (And.intro ty32 (And.intro ty25 (And.intro ty30 (And.intro ty3 (And.intro ty47 (And.intro ty29 (And.intro ty22 (And.intro ty59 ty115))))))))))
def q15 := (And.intro ty47 ty3)
def q16 := (And.intro ty24 (And.intro ty27 (And.intro ty29 (And.intro ty80 (And.intro ty126 (And.intro ty36 (And.intro ty93 (And.intro ty25 (And.intro ty30 (And.intro ty3 (And.intro ty47 (And.intro ty78 (And.intro ty22 (And.intro ty59 ty115))))))))))))))
def q17 := (And.intro ty24 (And.intro ty29 (And.intro ty47 (And.intro ty126 (And.intro ty36 (And.intro ty78 (And.intro ty3 (And.intro ty93 (And.intro ty22 ty115)))))))))
def q18 := (And.intro ty47 ty3)
def q19 := (And.intro ty24 (And.intro ty27 (And.intro ty80 (And.intro ty36 (And.intro ty47 (And.intro ty3 (And.intro ty111 (And.intro ty22 (And.intro ty25 (And.intro ty78 (And.intro ty115 ty59)))))))))))
def q24 := (And.intro ty24 (And.intro ty67 (And.intro ty47 (And.intro ty126 (And.intro ty36 (And.intro ty78 (And.intro ty22 (And.intro ty65 (And.intro ty3 (And.intro ty111 (And.intro ty25 (And.intro ty115 ty59))))))))))))
def q28 := (And.intro ty24 (And.intro ty22 (And.intro ty3 (And.intro ty115 ty59))))
def q29 := (And.intro ty24 (And.intro ty27 (And.intro ty80 (And.intro ty78 (And.intro ty126 (And.intro ty3 (And.intro ty22 (And.intro ty25 (And.intro ty36 (And.intro ty115 ty59))))))))))
def q31 := (And.intro ty47 (And.intro ty80 (And.intro ty78 (And.intro ty3 (And.intro ty27 (And.intro ty24 (And.intro ty25 ty22)))))))
def q32 := (And.intro ty78 (And.intro ty24 (And.intro ty22 (And.intro ty3 (And.intro ty115 ty59)))))
def q34 := (And.intro ty30 (And.intro ty3 ty47))
def q37 := (And.intro ty126 (And.intro ty3 ty36))
def q38 := (And.intro ty29 ty3)
def q40 := (And.intro ty80 (And.intro ty47 (And.intro ty3 (And.intro ty111 (And.intro ty78 (And.intro ty27 (And.intro ty24 ty25)))))))
def q41 := (And.intro ty93 (And.intro ty29 (And.intro ty3 ty111)))
def q42 := (And.intro ty93 (And.intro ty29 (And.intro ty3 ty111)))
def q43 := (And.intro ty25 (And.intro ty59 ty3))
def q44 := (And.intro ty30 (And.intro ty3 ty47))
def q45 := (And.intro ty24 (And.intro ty3 (And.intro ty22 ty115)))
def q46 := (And.intro ty27 (And.intro ty25 ty59))
def q48 := (And.intro ty24 (And.intro ty22 (And.intro ty3 (And.intro ty115 ty59))))
def q49 := (And.intro ty24 (And.intro ty27 (And.intro ty47 (And.intro ty3 (And.intro ty22 (And.intro ty25 (And.intro ty115 ty59)))))))
def q53 := (And.intro ty93 (And.intro ty47 (And.intro ty3 ty29)))
def q54 := (And.intro ty93 (And.intro ty47 (And.intro ty3 ty29)))
def q55 := (And.intro ty24 (And.intro ty3 (And.intro ty22 ty115)))
def q56 := (And.intro ty3 (And.intro ty126 ty36))
def q57 := (And.intro ty78 (And.intro ty47 (And.intro ty3 (And.intro ty111 (And.intro ty126 (And.intro ty36 (And.intro ty24 ty22)))))))
def q58 := (And.intro ty24 (And.intro ty27 (And.intro ty80 (And.intro ty47 (And.intro ty25 (And.intro ty3 (And.intro ty126 (And.intro ty36 (And.intro ty78 (And.intro ty22 (And.intro ty59 ty115)))))))))))
def q59 := (And.intro ty80 (And.intro ty78 (And.intro ty27 (And.intro ty25 (And.intro ty59 (And.intro ty3 (And.intro ty24 ty22)))))))
def q60 := (And.intro ty78 (And.intro ty3 (And.intro ty24 ty22)))
def q61 := (And.intro ty59 ty3)
def q62 := (And.intro ty78 (And.intro ty59 (And.intro ty3 (And.intro ty24 ty22))))
def q63 := (And.intro ty80 (And.intro ty3 (And.intro ty47 (And.intro ty111 (And.intro ty78 (And.intro ty27 (And.intro ty24 ty25)))))))
def q65 := (And.intro ty25 (And.intro ty3 ty59))
def q66 := (And.intro ty78 (And.intro ty3 (And.intro ty24 (And.intro ty22 (And.intro ty115 ty59)))))
def q73 := (And.intro ty27 (And.intro ty25 ty59))
def q74 := (And.intro ty30 (And.intro ty3 ty47))
def q75 := (And.intro ty47 ty3)
def q76 := (And.intro ty3 ty47)
def q79 := (And.intro ty24 (And.intro ty3 (And.intro ty22 (And.intro ty115 ty59))))
def q80 := (And.intro ty27 (And.intro ty25 (And.intro ty3 ty59)))
def q81 := (And.intro ty24 (And.intro ty27 (And.intro ty3 (And.intro ty25 (And.intro ty59 (And.intro ty47 (And.intro ty22 ty115)))))))
def q82 := (And.intro ty24 (And.intro ty22 (And.intro ty3 (And.intro ty115 ty59))))
def q85 := (And.intro ty24 (And.intro ty3 (And.intro ty22 (And.intro ty126 (And.intro ty36 (And.intro ty115 ty59))))))
def q86 := (And.intro ty78 (And.intro ty24 (And.intro ty22 (And.intro ty3 (And.intro ty115 (And.intro ty111 ty59))))))
def q87 := (And.intro ty59 ty3)
def q88 := (And.intro ty59 (And.intro ty3 (And.intro ty126 ty36)))
def q89 := (And.intro ty78 (And.intro ty24 (And.intro ty22 (And.intro ty3 (And.intro ty115 ty59)))))
def q90 := (And.intro ty59 ty3)
def q91 := (And.intro ty59 ty3)
def q97 := (And.intro ty27 (And.intro ty25 (And.intro ty3 (And.intro ty126 (And.intro ty36 ty59)))))
def q98 := (And.intro ty80 (And.intro ty78 (And.intro ty3 (And.intro ty111 (And.intro ty27 (And.intro ty24 (And.intro ty25 ty22)))))))
def q100 := (And.intro ty59 ty3)
def q101 := (And.intro ty59 ty3)
def q102 := (And.intro ty24 (And.intro ty59 (And.intro ty22 (And.intro ty3 (And.intro ty115 ty47)))))
def q110 := (And.intro ty24 (And.intro ty22 (And.intro ty3 (And.intro ty47 (And.intro ty115 ty59)))))
end Go.Vm
