import Derived.Test.YtfgjngignahcdaaGreatDoorVmBC
import Derived.Test.YtfgjngignahcdaaGreatDoorProg
set_option linter.all false
namespace Go.Vm
open Go.Proofs
set_option maxRecDepth 20000
set_option maxHeartbeats 8000000
def Γ0 : Nat → Option (List V) := fun _ => none
abbrev Sp0 : FuncId → List V → R → Prop := Spec Tryz.prog Γ0
abbrev nn (n : Int) : V := .i .i64 n
abbrev bb (b : Bool) : V := .b b
theorem mixed : Tryz.prog.follows .mixedOrders = true := by decide +kernel
theorem wr64 {n : Int} (h1 : -9223372036854775808 ≤ n) (h2 : n ≤ 9223372036854775807) : IntKind.wrap .i64 n = n := by
  simp [IntKind.wrap, IntKind.signed, IntKind.bits] <;> (try split) <;> omega
theorem mapnn {xs : List Int} : (∀ y, y ∈ List.map nn xs → y.cells.length = 1) = True := by
  simp only [List.mem_map, eq_iff_iff, iff_true]; rintro y ⟨a, _, rfl⟩; rfl
abbrev p2 (p : Int × Int) : V := .agg [nn p.1, nn p.2]
theorem mapp2 {xs : List (Int × Int)} : (∀ y, y ∈ List.map p2 xs → y.cells.length = 2) = True := by
  simp only [List.mem_map, eq_iff_iff, iff_true]; rintro y ⟨a, _, rfl⟩; rfl
theorem maxB : maxBytes = 1099511627776 := rfl
theorem mapDrop {α : Type} {f : α → V} {xs : List α} {n : Nat} : (xs.map f).drop n = (xs.drop n).map f := by rw [List.map_drop]
theorem mapTake {α : Type} {f : α → V} {xs : List α} {n : Nat} : (xs.map f).take n = (xs.take n).map f := by rw [List.map_take]
theorem mapApp {α : Type} {f : α → V} {xs ys : List α} : xs.map f ++ ys.map f = (xs ++ ys).map f := by rw [List.map_append]
theorem mapSnoc {xs : List Int} {y : Int} : xs.map nn ++ [V.i .i64 y] = (xs ++ [y]).map nn := by rw [List.map_append]; rfl
theorem mapSnoc2 {xs : List (Int × Int)} {y z : Int} : xs.map p2 ++ [V.agg [V.i .i64 y, V.i .i64 z]] = (xs ++ [(y, z)]).map p2 := by rw [List.map_append]; rfl
theorem mapRep {n : Nat} {a : Int} : List.replicate n (V.i .i64 a) = (List.replicate n a).map nn := by rw [List.map_replicate]
theorem mapSet {xs : List Int} {n : Nat} {a : Int} : (xs.map nn).set n (V.i .i64 a) = (xs.set n a).map nn := by rw [List.map_set]
theorem isNil_nn {σ : VS} {x : Int} {xs : List Int} : isNil σ (.p (.sl ((x :: xs).map nn))) = some false := rfl
theorem cast0' : ((0 : Nat) : Int) = 0 := rfl
theorem castPred {i : Nat} : ((i : Int) - 1).toNat = i - 1 := by omega
theorem castSucc {i : Nat} : ((i : Int) + 1).toNat = i + 1 := by omega
theorem toNat0 : Int.toNat 0 = 0 := rfl
theorem winM_0 : winM Γ0 = false := Eq.trans rfl rfl
def vp := And.intro @winM_0 <| And.intro (@Option.map_none.{0, 0}) <| And.intro @toNat0 <| And.intro @castPred <| And.intro @castSucc <| And.intro @mapnn (And.intro @mapp2 (And.intro @maxB (And.intro @mapDrop (And.intro @mapTake (And.intro @mapApp (And.intro @mapSnoc (And.intro @mapSnoc2 (And.intro @mapRep (And.intro @mapSet (And.intro @isNil_nn @cast0'))))))))))
theorem ta3 : szq Tryz.prog 3 = some 1 ∧ byq Tryz.prog 3 = some 8 ∧ agq Tryz.prog 3 = some false ∧ arq Tryz.prog 3 = none := by decide +kernel
theorem tz3 : zeq Tryz.prog 3 = some [.p (.i .i64 0)] := by rfl
theorem tu3 : Tryz.prog.underlying 3 = some (.int .i64) := by rfl
def ty3 := (And.intro ta3 (And.intro tz3 tu3))
theorem ta4 : szq Tryz.prog 4 = some 1 ∧ byq Tryz.prog 4 = some 1 ∧ agq Tryz.prog 4 = some false ∧ arq Tryz.prog 4 = none ∧ isBool Tryz.prog 4 = true := by decide +kernel
theorem tz4 : zeq Tryz.prog 4 = some [.p (.b false)] := by rfl
def ty4 := (And.intro ta4 tz4)
theorem ta22 : szq Tryz.prog 22 = some 1 ∧ byq Tryz.prog 22 = some 24 ∧ agq Tryz.prog 22 = some false ∧ elq Tryz.prog 22 = some 129 ∧ arq Tryz.prog 22 = none := by decide +kernel
theorem tz22 : zeq Tryz.prog 22 = some [.nilS] := by rfl
def ty22 := (And.intro ta22 tz22)
theorem ta24 : szq Tryz.prog 24 = some 3 ∧ byq Tryz.prog 24 = some 40 ∧ agq Tryz.prog 24 = some true ∧ arq Tryz.prog 24 = none ∧ flq Tryz.prog 24 0 = some (3, 0, 1) ∧ flq Tryz.prog 24 1 = some (3, 1, 1) ∧ flq Tryz.prog 24 2 = some (22, 2, 1) ∧ plq Tryz.prog 24 = some [(0, 1), (1, 1), (2, 1)] := by decide +kernel
theorem tz24 : zeq Tryz.prog 24 = some [.p (.i .i64 0), .p (.i .i64 0), .nilS] := by rfl
def ty24 := (And.intro ta24 tz24)
theorem ta25 : szq Tryz.prog 25 = some 1 ∧ byq Tryz.prog 25 = some 24 ∧ agq Tryz.prog 25 = some false ∧ elq Tryz.prog 25 = some 63 ∧ arq Tryz.prog 25 = none := by decide +kernel
theorem tz25 : zeq Tryz.prog 25 = some [.nilS] := by rfl
def ty25 := (And.intro ta25 tz25)
theorem ta27 : szq Tryz.prog 27 = some 2 ∧ byq Tryz.prog 27 = some 48 ∧ agq Tryz.prog 27 = some true ∧ arq Tryz.prog 27 = none ∧ flq Tryz.prog 27 0 = some (25, 0, 1) ∧ flq Tryz.prog 27 1 = some (25, 1, 1) ∧ plq Tryz.prog 27 = some [(0, 1), (1, 1)] := by decide +kernel
theorem tz27 : zeq Tryz.prog 27 = some [.nilS, .nilS] := by rfl
def ty27 := (And.intro ta27 tz27)
theorem ta29 : szq Tryz.prog 29 = some 2 ∧ byq Tryz.prog 29 = some 16 ∧ agq Tryz.prog 29 = some true ∧ arq Tryz.prog 29 = none ∧ flq Tryz.prog 29 0 = some (3, 0, 1) ∧ flq Tryz.prog 29 1 = some (3, 1, 1) ∧ plq Tryz.prog 29 = some [(0, 1), (1, 1)] ∧ cmpq Tryz.prog 29 = some [1, 1] := by decide +kernel
theorem tz29 : zeq Tryz.prog 29 = some [.p (.i .i64 0), .p (.i .i64 0)] := by rfl
def ty29 := (And.intro ta29 tz29)
theorem ta30 : szq Tryz.prog 30 = some 1 ∧ byq Tryz.prog 30 = some 24 ∧ agq Tryz.prog 30 = some false ∧ elq Tryz.prog 30 = some 3 ∧ arq Tryz.prog 30 = none := by decide +kernel
theorem tz30 : zeq Tryz.prog 30 = some [.nilS] := by rfl
def ty30 := (And.intro ta30 tz30)
theorem ta32 : szq Tryz.prog 32 = some 3 ∧ byq Tryz.prog 32 = some 40 ∧ agq Tryz.prog 32 = some true ∧ arq Tryz.prog 32 = none ∧ flq Tryz.prog 32 0 = some (29, 0, 2) ∧ flq Tryz.prog 32 1 = some (30, 2, 1) ∧ plq Tryz.prog 32 = some [(0, 2), (2, 1)] := by decide +kernel
theorem tz32 : zeq Tryz.prog 32 = some [.p (.i .i64 0), .p (.i .i64 0), .nilS] := by rfl
def ty32 := (And.intro ta32 tz32)
theorem ta36 : szq Tryz.prog 36 = some 1 ∧ byq Tryz.prog 36 = some 8 ∧ agq Tryz.prog 36 = some false ∧ arq Tryz.prog 36 = none := by decide +kernel
theorem tz36 : zeq Tryz.prog 36 = some [.p (.i .i64 0)] := by rfl
theorem tu36 : Tryz.prog.underlying 36 = some (.int .i64) := by rfl
def ty36 := (And.intro ta36 (And.intro tz36 tu36))
theorem ta63 : szq Tryz.prog 63 = some 2 ∧ byq Tryz.prog 63 = some 16 ∧ agq Tryz.prog 63 = some true ∧ arq Tryz.prog 63 = none ∧ flq Tryz.prog 63 0 = some (3, 0, 1) ∧ flq Tryz.prog 63 1 = some (3, 1, 1) ∧ plq Tryz.prog 63 = some [(0, 1), (1, 1)] ∧ cmpq Tryz.prog 63 = some [1, 1] := by decide +kernel
theorem tz63 : zeq Tryz.prog 63 = some [.p (.i .i64 0), .p (.i .i64 0)] := by rfl
def ty63 := (And.intro ta63 tz63)
theorem ta80 : szq Tryz.prog 80 = some 1 ∧ byq Tryz.prog 80 = some 24 ∧ agq Tryz.prog 80 = some false ∧ elq Tryz.prog 80 = some 25 ∧ arq Tryz.prog 80 = none := by decide +kernel
theorem tz80 : zeq Tryz.prog 80 = some [.nilS] := by rfl
def ty80 := (And.intro ta80 tz80)
theorem ta82 : szq Tryz.prog 82 = some 1 ∧ byq Tryz.prog 82 = some 24 ∧ agq Tryz.prog 82 = some true ∧ arq Tryz.prog 82 = none ∧ flq Tryz.prog 82 0 = some (80, 0, 1) ∧ plq Tryz.prog 82 = some [(0, 1)] := by decide +kernel
theorem tz82 : zeq Tryz.prog 82 = some [.nilS] := by rfl
def ty82 := (And.intro ta82 tz82)
theorem ta96 : szq Tryz.prog 96 = some 3 ∧ byq Tryz.prog 96 = some 40 ∧ agq Tryz.prog 96 = some true ∧ arq Tryz.prog 96 = none ∧ flq Tryz.prog 96 0 = some (24, 0, 3) ∧ plq Tryz.prog 96 = some [(0, 3)] := by decide +kernel
theorem tz96 : zeq Tryz.prog 96 = some [.p (.i .i64 0), .p (.i .i64 0), .nilS] := by rfl
def ty96 := (And.intro ta96 tz96)
theorem ta99 : szq Tryz.prog 99 = some 2 ∧ byq Tryz.prog 99 = some 16 ∧ agq Tryz.prog 99 = some true ∧ arq Tryz.prog 99 = none ∧ flq Tryz.prog 99 0 = some (29, 0, 2) ∧ plq Tryz.prog 99 = some [(0, 2)] ∧ cmpq Tryz.prog 99 = some [1, 1] := by decide +kernel
theorem tz99 : zeq Tryz.prog 99 = some [.p (.i .i64 0), .p (.i .i64 0)] := by rfl
def ty99 := (And.intro ta99 tz99)
theorem ta103 : szq Tryz.prog 103 = some 5 ∧ byq Tryz.prog 103 = some 88 ∧ agq Tryz.prog 103 = some true ∧ arq Tryz.prog 103 = none ∧ flq Tryz.prog 103 0 = some (96, 0, 3) ∧ flq Tryz.prog 103 1 = some (27, 3, 2) ∧ plq Tryz.prog 103 = some [(0, 3), (3, 2)] := by decide +kernel
theorem tz103 : zeq Tryz.prog 103 = some [.p (.i .i64 0), .p (.i .i64 0), .nilS, .nilS, .nilS] := by rfl
def ty103 := (And.intro ta103 tz103)
theorem ta106 : szq Tryz.prog 106 = some 1 ∧ byq Tryz.prog 106 = some 24 ∧ agq Tryz.prog 106 = some false ∧ elq Tryz.prog 106 = some 30 ∧ arq Tryz.prog 106 = none := by decide +kernel
theorem tz106 : zeq Tryz.prog 106 = some [.nilS] := by rfl
def ty106 := (And.intro ta106 tz106)
theorem ta122 : szq Tryz.prog 122 = some 1 ∧ byq Tryz.prog 122 = some 8 ∧ agq Tryz.prog 122 = some false ∧ arq Tryz.prog 122 = none := by decide +kernel
theorem tz122 : zeq Tryz.prog 122 = some [.p (.i .u64 0)] := by rfl
theorem tu122 : Tryz.prog.underlying 122 = some (.int .u64) := by rfl
def ty122 := (And.intro ta122 (And.intro tz122 tu122))
theorem ta129 : szq Tryz.prog 129 = some 3 ∧ byq Tryz.prog 129 = some 24 ∧ agq Tryz.prog 129 = some true ∧ arq Tryz.prog 129 = none ∧ flq Tryz.prog 129 0 = some (63, 0, 2) ∧ flq Tryz.prog 129 1 = some (3, 2, 1) ∧ plq Tryz.prog 129 = some [(0, 2), (2, 1)] ∧ cmpq Tryz.prog 129 = some [1, 1, 1] := by decide +kernel
theorem tz129 : zeq Tryz.prog 129 = some [.p (.i .i64 0), .p (.i .i64 0), .p (.i .i64 0)] := by rfl
def ty129 := (And.intro ta129 tz129)
theorem ta138 : szq Tryz.prog 138 = some 1 ∧ byq Tryz.prog 138 = some 24 ∧ agq Tryz.prog 138 = some false ∧ elq Tryz.prog 138 = some 36 ∧ arq Tryz.prog 138 = none := by decide +kernel
theorem tz138 : zeq Tryz.prog 138 = some [.nilS] := by rfl
def ty138 := (And.intro ta138 tz138)
def q3 := (And.intro ty24 (And.intro ty27 (And.intro ty32 (And.intro ty30 (And.intro ty29 (And.intro ty3 (And.intro ty36 (And.intro ty22 (And.intro ty25 (And.intro ty129 ty63))))))))))
def q4 := (And.intro ty24 (And.intro ty27 (And.intro ty3 (And.intro ty30 (And.intro ty36 (And.intro ty25 (And.intro ty22 (And.intro ty63 ty129))))))))
def q5 := (And.intro ty24 (And.intro ty27 (And.intro ty29 (And.intro ty3 (And.intro ty36 (And.intro ty30 (And.intro ty25 (And.intro ty63 (And.intro ty4 (And.intro ty22 ty129))))))))))
def q6 := (And.intro ty24 (And.intro ty27 (And.intro ty3 (And.intro ty25 (And.intro ty30 (And.intro ty36 (And.intro ty22 (And.intro ty63 ty129))))))))
def q8 := (And.intro ty24 (And.intro ty27 (And.intro ty25 (And.intro ty3 (And.intro ty22 (And.intro ty63 ty129))))))
def q9 := (And.intro ty30 ty3)
def q10 := (And.intro ty24 (And.intro ty29 (And.intro ty30 (And.intro ty138 (And.intro ty36 (And.intro ty96 (And.intro ty3 (And.intro ty99 (And.intro ty22 ty129)))))))))
def q11 := (And.intro ty24 (And.intro ty22 (And.intro ty3 (And.intro ty129 ty63))))
def q12 := (And.intro ty30 ty3)
def q13 := (And.intro ty24 (And.intro ty27 (And.intro ty29 (And.intro ty103 (And.intro ty138 (And.intro ty36 (And.intro ty99 (And.intro ty25 (And.intro ty106 (And.intro ty3 (And.intro ty30 (And.intro ty96 (And.intro ty22 (And.intro ty63 ty129))))))))))))))
def q14 := (And.intro ty27 (And.intro ty25 (And.intro ty63 ty3)))
def q15 := (And.intro ty24 (And.intro ty3 (And.intro ty22 ty129)))
def q16 := (And.intro ty29 ty3)
def q17 := (And.intro ty24 (And.intro ty30 (And.intro ty3 (And.intro ty22 ty129))))
def q18 := (And.intro ty29 (And.intro ty30 ty3))
def q19 := (And.intro ty24 (And.intro ty27 (And.intro ty3 (And.intro ty22 (And.intro ty25 (And.intro ty129 ty63))))))
def q20 := (And.intro ty24 (And.intro ty27 (And.intro ty29 (And.intro ty25 (And.intro ty106 (And.intro ty3 (And.intro ty30 (And.intro ty22 (And.intro ty63 ty129)))))))))
def q21 := (And.intro ty30 ty3)
def q22 := (And.intro ty24 (And.intro ty27 (And.intro ty103 (And.intro ty25 (And.intro ty3 (And.intro ty138 (And.intro ty36 (And.intro ty22 (And.intro ty96 (And.intro ty63 ty129))))))))))
def q23 := (And.intro ty24 (And.intro ty27 (And.intro ty103 (And.intro ty36 (And.intro ty25 (And.intro ty3 (And.intro ty30 (And.intro ty22 (And.intro ty96 (And.intro ty63 ty129))))))))))
def q24 := (And.intro ty24 (And.intro ty27 (And.intro ty25 (And.intro ty3 (And.intro ty30 (And.intro ty22 (And.intro ty63 ty129)))))))
def q26 := (And.intro ty24 (And.intro ty27 (And.intro ty3 (And.intro ty25 (And.intro ty63 (And.intro ty30 (And.intro ty22 ty129)))))))
def q27 := (And.intro ty24 (And.intro ty27 (And.intro ty103 (And.intro ty36 (And.intro ty30 (And.intro ty3 (And.intro ty122 (And.intro ty22 (And.intro ty25 (And.intro ty96 (And.intro ty129 ty63)))))))))))
def q28 := (And.intro ty24 (And.intro ty138 (And.intro ty36 (And.intro ty96 (And.intro ty122 (And.intro ty3 (And.intro ty22 ty129)))))))
def q29 := (And.intro ty24 (And.intro ty22 (And.intro ty3 (And.intro ty129 ty63))))
def q30 := (And.intro ty24 (And.intro ty63 (And.intro ty36 (And.intro ty96 (And.intro ty138 (And.intro ty3 (And.intro ty122 (And.intro ty22 ty129))))))))
def q31 := (And.intro ty30 ty3)
def q32 := (And.intro ty27 (And.intro ty25 (And.intro ty3 (And.intro ty138 (And.intro ty36 ty63)))))
def q33 := (And.intro ty24 (And.intro ty27 (And.intro ty103 (And.intro ty36 (And.intro ty30 (And.intro ty3 (And.intro ty96 (And.intro ty122 (And.intro ty25 (And.intro ty63 (And.intro ty22 ty129)))))))))))
def q34 := (And.intro ty27 (And.intro ty25 (And.intro ty3 ty63)))
def q35 := (And.intro ty24 (And.intro ty27 (And.intro ty30 (And.intro ty25 (And.intro ty3 (And.intro ty22 (And.intro ty63 ty129)))))))
def q36 := (And.intro ty25 (And.intro ty3 ty63))
def q37 := (And.intro ty24 (And.intro ty27 (And.intro ty30 (And.intro ty3 (And.intro ty25 (And.intro ty63 (And.intro ty22 ty129)))))))
def q38 := (And.intro ty24 (And.intro ty27 (And.intro ty25 (And.intro ty3 (And.intro ty63 (And.intro ty30 (And.intro ty22 ty129)))))))
def q41 := (And.intro ty24 (And.intro ty82 (And.intro ty30 (And.intro ty138 (And.intro ty36 (And.intro ty96 (And.intro ty22 (And.intro ty80 (And.intro ty3 (And.intro ty122 (And.intro ty25 (And.intro ty129 ty63))))))))))))
def q44 := (And.intro ty24 (And.intro ty22 (And.intro ty3 (And.intro ty129 ty63))))
def q45 := (And.intro ty138 (And.intro ty3 ty36))
def q46 := (And.intro ty24 (And.intro ty3 (And.intro ty22 ty129)))
def q47 := (And.intro ty29 ty3)
def q48 := (And.intro ty3 (And.intro ty138 ty36))
def q49 := (And.intro ty96 (And.intro ty30 (And.intro ty3 (And.intro ty122 (And.intro ty138 (And.intro ty36 (And.intro ty24 ty22)))))))
def q50 := (And.intro ty99 (And.intro ty29 (And.intro ty3 ty122)))
def q51 := (And.intro ty99 (And.intro ty29 (And.intro ty3 ty122)))
def q52 := (And.intro ty24 (And.intro ty27 (And.intro ty103 (And.intro ty96 (And.intro ty138 (And.intro ty3 (And.intro ty22 (And.intro ty25 (And.intro ty36 (And.intro ty129 ty63))))))))))
def q54 := (And.intro ty96 (And.intro ty24 (And.intro ty22 (And.intro ty3 (And.intro ty129 ty63)))))
def q55 := (And.intro ty103 (And.intro ty30 (And.intro ty3 (And.intro ty122 (And.intro ty96 (And.intro ty27 (And.intro ty24 ty25)))))))
def q56 := (And.intro ty99 (And.intro ty30 (And.intro ty3 ty29)))
def q57 := (And.intro ty99 (And.intro ty30 (And.intro ty3 ty29)))
def q58 := (And.intro ty25 (And.intro ty63 ty3))
def q59 := (And.intro ty24 (And.intro ty3 (And.intro ty22 (And.intro ty129 ty63))))
def q60 := (And.intro ty24 (And.intro ty3 (And.intro ty22 ty129)))
def q61 := (And.intro ty24 (And.intro ty22 (And.intro ty3 (And.intro ty129 ty63))))
def q64 := (And.intro ty27 (And.intro ty25 ty63))
def q65 := (And.intro ty24 (And.intro ty27 (And.intro ty30 (And.intro ty3 (And.intro ty22 (And.intro ty25 (And.intro ty129 ty63)))))))
def q68 := (And.intro ty103 (And.intro ty3 (And.intro ty30 (And.intro ty122 (And.intro ty96 (And.intro ty27 (And.intro ty24 ty25)))))))
def q69 := (And.intro ty63 ty3)
def q70 := (And.intro ty24 (And.intro ty63 (And.intro ty22 (And.intro ty3 (And.intro ty129 ty30)))))
def q71 := (And.intro ty24 (And.intro ty27 (And.intro ty103 (And.intro ty30 (And.intro ty25 (And.intro ty3 (And.intro ty138 (And.intro ty36 (And.intro ty96 (And.intro ty22 (And.intro ty63 ty129)))))))))))
def q72 := (And.intro ty103 (And.intro ty96 (And.intro ty27 (And.intro ty25 (And.intro ty63 (And.intro ty3 (And.intro ty24 ty22)))))))
def q74 := (And.intro ty96 (And.intro ty24 (And.intro ty22 (And.intro ty3 (And.intro ty129 (And.intro ty122 ty63))))))
def q75 := (And.intro ty96 (And.intro ty3 (And.intro ty24 ty22)))
def q76 := (And.intro ty63 ty3)
def q77 := (And.intro ty96 (And.intro ty63 (And.intro ty3 (And.intro ty24 ty22))))
def q78 := (And.intro ty63 ty3)
def q80 := (And.intro ty25 (And.intro ty3 ty63))
def q81 := (And.intro ty96 (And.intro ty3 (And.intro ty24 (And.intro ty22 (And.intro ty129 ty63)))))
def q89 := (And.intro ty24 (And.intro ty3 (And.intro ty22 (And.intro ty138 (And.intro ty36 (And.intro ty129 ty63))))))
def q91 := (And.intro ty27 (And.intro ty25 ty63))
def q95 := (And.intro ty24 (And.intro ty22 (And.intro ty3 (And.intro ty30 (And.intro ty129 ty63)))))
def q96 := (And.intro ty63 ty3)
def q97 := (And.intro ty63 (And.intro ty3 (And.intro ty138 ty36)))
def q98 := (And.intro ty96 (And.intro ty24 (And.intro ty22 (And.intro ty3 (And.intro ty129 ty63)))))
def q99 := (And.intro ty63 ty3)
def q100 := (And.intro ty63 ty3)
def q110 := (And.intro ty103 (And.intro ty96 (And.intro ty3 (And.intro ty122 (And.intro ty27 (And.intro ty24 (And.intro ty25 ty22)))))))
end Go.Vm
