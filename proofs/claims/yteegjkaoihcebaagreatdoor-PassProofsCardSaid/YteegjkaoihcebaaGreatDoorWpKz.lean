import Derived.Test.YteegjkaoihcebaaGreatDoorCards
import Derived.Test.YteegjkaoihcebaaGreatDoorTie
import Derived.Test.YteegjkaoihcebaaGreatDoorVnBN
import Derived.Test.YteegjkaoihcebaaGreatDoorWpSz
import Derived.ProofKit
import Derived.LaidMore
import Derived.OpenShut
import Derived.Stop.Joined
import Derived.SevenTiedAt
import Derived.Test.YteegjkaoihcebaaGreatDoorVmBC
set_option linter.all false
namespace Go.Vm
open Go.Proofs Go.Proofs.YteegjkaoihcebaaGreatDoor
open Nat renaming reduceEqDiff → rE, reduceAdd → rA, reduceLeDiff → rL, reduceLT → rT, reduceMul → rM
open Go.ChangeShapes Go.WideShapes Go.ChangeAt Go.RowKit
set_option maxRecDepth 100000
theorem Tryz.own : ownKnob Tryz.prog.godebug = none := by kernel_rfl
theorem Tryz.laidOut : laidOutB Tryz.prog = true := by kernel_rfl
def laidD : List (String × DataW Unit) := [("cobble/pass.thickness", Rows.laid_cobble_pass_thickness), ("cobble/pass.heat", Rows.laid_cobble_pass_heat), ("cobble/pass.stress", Rows.laid_cobble_pass_stress), ("cobble/pass.friction", Rows.laid_cobble_pass_friction), ("cobble/pass.loss", Rows.laid_cobble_pass_loss)]
theorem door_met (os : Os) (args : Array Value) : laidMetH Tryz.prog laidD ((World.doorLaid Tryz.prog 400 os).forCall (fun _ _ => 0) ⟨#[], args, []⟩).memory :=
 laidMetH_of_parts3 (fuel := 8) (laidMet_of_run' 8 (by kernel_rfl) (by kernel_rfl)) (by kernel_rfl) (by kernel_rfl)
theorem of_laid {W : World} (h : laidMetH Tryz.prog laidD W) : ∀ g cs, Γ0 g = some cs → repA (stW W) (rdW W) cs g 0 := by
 rw [MakeChecks.laidMetH_plain _ _ _ (by kernel_rfl)] at h
 have r0 := laid_intsB (g := 0) (t := 157) (zs := [0, 20000]) (Go.Lib.laidMet.reads h (n := "cobble/pass.heat") (d := Rows.laid_cobble_pass_heat) (by simp [laidD])) (by kernel_rfl) (by kernel_rfl) (by kernel_rfl)
 have r1 := laid_intsB (g := 1) (t := 157) (zs := [1, 100]) (Go.Lib.laidMet.reads h (n := "cobble/pass.stress") (d := Rows.laid_cobble_pass_stress) (by simp [laidD])) (by kernel_rfl) (by kernel_rfl) (by kernel_rfl)
 have r2 := laid_intsB (g := 2) (t := 157) (zs := [0, 100]) (Go.Lib.laidMet.reads h (n := "cobble/pass.friction") (d := Rows.laid_cobble_pass_friction) (by simp [laidD])) (by kernel_rfl) (by kernel_rfl) (by kernel_rfl)
 have r3 := laid_intsB (g := 3) (t := 157) (zs := [0, 1000]) (Go.Lib.laidMet.reads h (n := "cobble/pass.loss") (d := Rows.laid_cobble_pass_loss) (by simp [laidD])) (by kernel_rfl) (by kernel_rfl) (by kernel_rfl)
 have r4 := laid_intsB (g := 4) (t := 157) (zs := [1, 1000]) (Go.Lib.laidMet.reads h (n := "cobble/pass.thickness") (d := Rows.laid_cobble_pass_thickness) (by simp [laidD])) (by kernel_rfl) (by kernel_rfl) (by kernel_rfl)
 intro g cs hg
 unfold Γ0 at hg
 split at hg
 ·
  cases hg; exact r0
 ·
  cases hg; exact r1
 ·
  cases hg; exact r2
 ·
  cases hg; exact r3
 ·
  cases hg; exact r4
 ·
  cases hg
end Go.Vm

namespace Go.Vm
open Go.Proofs
open Nat renaming reduceEqDiff → rE, reduceAdd → rA, reduceLeDiff → rL, reduceLT → rT, reduceMul → rM
set_option maxRecDepth 20000
set_option maxHeartbeats 8000000
structure PMat where
 stress : Int
 friction : Int
 heat : Int
 losses : List Int
theorem spec40 (xs : List Int) (hl : xs.length < 1000000) : Sp0 40 [.sl (xs.map nn)] (.one (.c (.arr 3 1 (xs.map nn)))) := by
 refine spec_of_x mixed (fun _ _ _ h => h) Tryz.func40 (by decide +kernel) rfl (rs := _) rfl (by rfl) rfl (by simp [Tryz.f40]) (by decide +kernel) ?_; simp only [argsG]
 refine cR fun K hK => ?_
 simp only [vm]
 apply hK
 refine cR fun K hK => ?_
 simp only [vx, vp, q40, reduceIte, rE, rA, rL, rM, reduceCtorEq]
 refine nb ?_
 refine nb ?_
 apply hK
 refine c_ret1 ?_
 simp only [vx, reduceIte, rE, reduceCtorEq]
 exact ⟨_, rfl, rfl⟩
theorem spec9 (r : PRules) (hl : r.stands.length < 1000000) : Sp0 9 [rulV r] (.one (.agg [.p (nn r.width), .p (nn r.start), .p (nn r.finish), .p (nn r.hlo), .p (nn r.hhi), .p (nn r.cold), .arr 123 5 (r.stands.map stdV), .p (nn r.slo), .p (nn r.shi), .p (nn r.flo), .p (nn r.fhi)])) := by
 refine spec_of_x mixed (fun _ _ _ h => h) Tryz.func9 (by decide +kernel) rfl (rs := _) rfl (by rfl) rfl (by simp [Tryz.f9]) (by decide +kernel) ?_; simp only [argsG]
 refine cR fun K hK => ?_
 simp only [vx, q9, reduceIte, rE, rA, reduceCtorEq]
 refine nb ?_
 refine nb ?_
 apply hK
 refine cR fun K hK => ?_
 simp only [vx, vp, q9, mapstd, reduceIte, rE, rA, rL, rM, rT, reduceCtorEq]
 refine nb ?_
 refine nb ?_
 apply hK
 refine cR fun K hK => ?_
 simp only [vx, vp, q9, reduceIte, rE, rA, rL, reduceCtorEq]
 apply hK
 refine c_ret1 ?_
 simp only [vx, vp, q9, reduceIte, rE, rA, rL, reduceCtorEq]
 exact ⟨_, rfl, rfl⟩
end Go.Vm

namespace Go.Vm
open Go.Proofs
open Nat renaming reduceEqDiff → rE, reduceAdd → rA, reduceLeDiff → rL, reduceLT → rT, reduceMul → rM
open Go.ChangeShapes Go.WideShapes Go.ChangeAt Go.RowKit
set_option maxRecDepth 100000
theorem val_int {x : V} (h : valE (.int .i64) x) : ∃ n, x = nn n := by
 simp only [valE] at h
 obtain ⟨n, h, _⟩ := h
 exact ⟨n, h⟩
theorem val_ints {ys : List V} (h : ∀ y ∈ ys, valE (.int .i64) y) : ∃ xs : List Int, ys = xs.map nn := by
 induction ys with
 | nil => exact ⟨[], rfl⟩
 | cons y ys ih =>
  obtain ⟨xs, h1⟩ := ih (fun y hy => h y (List.mem_cons_of_mem _ hy))
  obtain ⟨n, h2⟩ := val_int (h y (by simp))
  exact ⟨n :: xs, by rw [h1, h2]; rfl⟩
theorem val_p2 {y : V} (h : valE (.st [.int .i64, .int .i64]) y) : ∃ p, y = p2 p := by
 simp only [valE, valCs] at h
 obtain ⟨cs, rfl, a, b, rfl, ⟨x, ⟨n, rfl, _⟩, rfl⟩, c, d, rfl, ⟨z, ⟨m, rfl, _⟩, rfl⟩, rfl⟩ := h
 exact ⟨(n, m), rfl⟩
theorem cs_cons {s : Sh} {ss : List Sh} {l : List V} (h : valCs (s :: ss) l) : ∃ y r, valE s y ∧ valCs ss r ∧ l = y.cells ++ r := by
 unfold valCs at h
 obtain ⟨a, b, rfl, ⟨y, hy, rfl⟩, h2⟩ := h
 exact ⟨y, b, hy, h2, rfl⟩
theorem cs_nil {l : List V} (h : valCs [] l) : l = [] := by unfold valCs at h; exact h
theorem val_st {ss : List Sh} {x : V} (h : valE (.st ss) x) : ∃ cs, x = .agg cs ∧ valCs ss cs := by unfold valE at h; exact h
theorem val_isl {x : V} (h : valE (.sl (.int .i64)) x) : ∃ xs : List Int, x = .sl (xs.map nn) := by
 unfold valE at h
 obtain ⟨ys, h1, _, h3⟩ := h
 obtain ⟨xs, h4⟩ := val_ints h3
 exact ⟨xs, by rw [h1, h4]⟩
theorem val_num {r : List Sh} {l : List V} (h : valCs (.int .i64 :: r) l) : ∃ (n : Int) (t : List V), valCs r t ∧ l = nn n :: t := by
 obtain ⟨z, t, hz, h1, h2⟩ := cs_cons h
 obtain ⟨m, h3⟩ := val_int hz
 exact ⟨m, t, h1, by rw [h2, h3]; rfl⟩
theorem val_rng {r : List Sh} {l : List V} (h : valCs (.st [.int .i64, .int .i64] :: r) l) : ∃ (a b : Int) (t : List V), valCs r t ∧ l = nn a :: nn b :: t := by
 obtain ⟨z, t, hz, h1, h2⟩ := cs_cons h
 obtain ⟨p, h3⟩ := val_p2 hz
 exact ⟨p.1, p.2, t, h1, by rw [h2, h3]; rfl⟩
abbrev shStd : Sh := .st [.int .i64, .int .i64, .int .i64, .st [.int .i64, .int .i64]]
abbrev shRul : Sh := .st [.int .i64, .int .i64, .int .i64, .st [.int .i64, .int .i64], .int .i64, .sl shStd, .st [.int .i64, .int .i64], .st [.int .i64, .int .i64]]
theorem val_std {y : V} (h : valE shStd y) : ∃ s : PStand, y = stdV s := by
 obtain ⟨cs, e1, h1⟩ := val_st h
 obtain ⟨a, t1, h2, e2⟩ := val_num h1
 obtain ⟨b, t2, h3, e3⟩ := val_num h2
 obtain ⟨c, t3, h4, e4⟩ := val_num h3
 obtain ⟨d, e, t4, h5, e5⟩ := val_rng h4
 exact ⟨⟨a, b, c, d, e⟩, by rw [e1, e2, e3, e4, e5, cs_nil h5]⟩
theorem val_stds {ys : List V} (h : ∀ y ∈ ys, valE shStd y) : ∃ xs : List PStand, ys = xs.map stdV := by
 induction ys with
 | nil => exact ⟨[], rfl⟩
 | cons y ys ih =>
  obtain ⟨xs, h1⟩ := ih (fun y hy => h y (List.mem_cons_of_mem _ hy))
  obtain ⟨n, h2⟩ := val_std (h y (by simp))
  exact ⟨n :: xs, by rw [h1, h2]; rfl⟩
theorem val_rul {x : V} (h : valE shRul x) : ∃ r : PRules, x = rulV r := by
 obtain ⟨cs, e1, h1⟩ := val_st h
 obtain ⟨a, t1, h2, e2⟩ := val_num h1
 obtain ⟨b, t2, h3, e3⟩ := val_num h2
 obtain ⟨c, t3, h4, e4⟩ := val_num h3
 obtain ⟨d, d', t4, h5, e5⟩ := val_rng h4
 obtain ⟨e, t5, h6, e6⟩ := val_num h5
 obtain ⟨y, t6, hy, h7, e7⟩ := cs_cons h6
 unfold valE at hy
 obtain ⟨ys, f1, _, f2⟩ := hy
 obtain ⟨st, f3⟩ := val_stds f2
 obtain ⟨g, g', t7, h8, e8⟩ := val_rng h7
 obtain ⟨i, i', t8, h9, e9⟩ := val_rng h8
 exact ⟨⟨a, b, c, d, d', e, st, g, g', i, i'⟩, by rw [e1, e2, e3, e4, e5, e6, e7, f1, f3, e8, e9, cs_nil h9]; rfl⟩
end Go.Vm
