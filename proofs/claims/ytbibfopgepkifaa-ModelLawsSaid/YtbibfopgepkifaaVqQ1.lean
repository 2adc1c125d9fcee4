import Derived.Test.YtbibfopgepkifaaVmBC
import Derived.Test.YtbibfopgepkifaaVqA
set_option linter.all false
namespace Go.Vm
open Go.Proofs
set_option maxRecDepth 20000
set_option maxHeartbeats 8000000
abbrev ev3 (e : Int × Int × Int) : V := .agg [nn e.1, nn e.2.1, nn e.2.2]
abbrev st4 (s : Int × Int × Int × Int) : V := .agg [nn s.1, nn s.2.1, nn s.2.2.1, nn s.2.2.2]
abbrev lawL (c0 c1 s0 s1 : Int) (es : List (Int × Int × Int)) : V := .agg [nn c0, nn c1, nn s0, nn s1, .sl (es.map ev3)]
theorem mapev3 {xs : List (Int × Int × Int)} : (∀ y, y ∈ List.map ev3 xs → y.cells.length = 3) = True := by
  simp only [List.mem_map, eq_iff_iff, iff_true]; rintro y ⟨a, _, rfl⟩; rfl
theorem mapst4 {xs : List (Int × Int × Int × Int)} : (∀ y, y ∈ List.map st4 xs → y.cells.length = 4) = True := by
  simp only [List.mem_map, eq_iff_iff, iff_true]; rintro y ⟨a, _, rfl⟩; rfl
theorem mapSnoc3 {xs : List (Int × Int × Int)} {x y z : Int} : xs.map ev3 ++ [V.agg [V.i .i64 x, V.i .i64 y, V.i .i64 z]] = (xs ++ [(x, y, z)]).map ev3 := by rw [List.map_append]; rfl
theorem mapSnoc4 {xs : List (Int × Int × Int × Int)} {x y z u : Int} : xs.map st4 ++ [V.agg [V.i .i64 x, V.i .i64 y, V.i .i64 z, V.i .i64 u]] = (xs ++ [(x, y, z, u)]).map st4 := by rw [List.map_append]; rfl
def ve := And.intro @mapev3 (And.intro @mapst4 (And.intro @mapSnoc3 @mapSnoc4))
def rngL (lo hi : Int) : Bool := withinV lo (-10000) 10000 && withinV hi (-10000) 10000
def evE (e : Int × Int × Int) : Int := firstV [if withinV e.1 (-100) 100 && rngL e.2.1 e.2.2 then 0 else 2, if decide (e.2.1 ≤ e.2.2) then 0 else 9]
def evAt (es : List (Int × Int × Int)) : Nat → Nat → Nat × Int
  | _, 0 => (0, 0)
  | i, n + 1 => if evE (es.getD i default) ≠ 0 then (i, evE (es.getD i default)) else evAt es (i + 1) n
def lawHead (c0 c1 s0 s1 n : Int) : Int := firstV [if rngL c0 c1 && rngL s0 s1 then 0 else 2, if decide (c0 ≤ c1) && decide (s0 ≤ s1) then 0 else 9, if decide (n ≤ 10) then 0 else 8]
def lawV (c0 c1 s0 s1 : Int) (es : List (Int × Int × Int)) : Nat × Int := if lawHead c0 c1 s0 s1 es.length ≠ 0 then (0, lawHead c0 c1 s0 s1 es.length) else evAt es 0 es.length
theorem ev_ret {c0 c1 s0 s1 : Int} {es : List (Int × Int × Int)} {i : Nat} (h : lawV c0 c1 s0 s1 es = evAt es i (es.length - i)) (hi : i < es.length) (he : evE (es.getD i default) ≠ 0) : lawV c0 c1 s0 s1 es = (i, evE (es.getD i default)) := by
  rw [h, show es.length - i = (es.length - (i + 1)) + 1 by omega, evAt, if_pos he]
theorem ev_go {c0 c1 s0 s1 : Int} {es : List (Int × Int × Int)} {i : Nat} (h : lawV c0 c1 s0 s1 es = evAt es i (es.length - i)) (hi : i < es.length) (he : evE (es.getD i default) = 0) : lawV c0 c1 s0 s1 es = evAt es (i + 1) (es.length - (i + 1)) := by
  rw [h, show es.length - i = (es.length - (i + 1)) + 1 by omega, evAt, if_neg (by rw [he]; simp)]
theorem ev_end {c0 c1 s0 s1 : Int} {es : List (Int × Int × Int)} {i : Nat} (h : lawV c0 c1 s0 s1 es = evAt es i (es.length - i)) (hi : es.length ≤ i) : lawV c0 c1 s0 s1 es = (0, 0) := by
  rw [h, show es.length - i = 0 by omega]; rfl
theorem spec77 (lo hi : Int) : Sp0 77 [.agg [nn lo, nn hi]] (R.v (.b (rngL lo hi))) := by
  refine spec_of mixed (fun _ _ _ h => h) Try.func77 (by decide +kernel) rfl (rs := _) rfl rfl (by simp [Try.f77]) (by decide +kernel) ?_; simp only [argsG]
  refine c_reg fun K hK => ?_
  simp (maxSteps := 2000000) only [vm, vr, reduceIte, Nat.reduceAdd]
  refine need_by (by first | assumption | omega | (simp; done) | (simp; omega)) ?_
  (refine hK _ ?_; clear hK; clear K)
  refine c_reg fun K hK => ?_
  simp (maxSteps := 2000000) only [vm, vr, q77, reduceIte, Nat.reduceEqDiff, Nat.reduceLeDiff, reduceCtorEq]
  (apply s_call (spec78 _ _ ?s3401x1 ?s3401x2); (case hf => rfl); (case hq => (simp (maxSteps := 2000000) only [vm, reduceIte, Nat.reduceEqDiff, reduceCtorEq]; rfl)); (case hvs => rfl); (case s3401x1 => first | assumption | omega | (simp; done) | (simp; omega)); (case s3401x2 => first | assumption | omega | (simp; done) | (simp; omega)))
  simp (maxSteps := 2000000) only [vm, vr, q77, reduceIte, Nat.reduceEqDiff, Nat.reduceAdd, Nat.reduceLeDiff, reduceCtorEq]
  refine guard_by (fun hb1 => ?_) (fun hb1 => ?_) <;> (have hp1 := hb1; try simp only [decide_eq_true_eq, decide_eq_false_iff_not, Bool.and_eq_true, Bool.or_eq_true, Bool.not_eq_true', Bool.not_eq_false', Bool.and_eq_false_iff, Bool.or_eq_false_iff, beq_iff_eq, bne_iff_ne, beq_eq_false_iff_ne, bne_eq_false_iff_eq, Bool.not_eq_false, Int.not_lt, Int.not_le] at hp1)
  simp (maxSteps := 2000000) only [vm, hb1]
  (apply s_call (spec78 _ _ ?s3402x1 ?s3402x2); (case hf => rfl); (case hq => (simp (maxSteps := 2000000) only [vm, reduceIte, Nat.reduceEqDiff, reduceCtorEq]; rfl)); (case hvs => rfl); (case s3402x1 => first | assumption | omega | (simp; done) | (simp; omega)); (case s3402x2 => first | assumption | omega | (simp; done) | (simp; omega)))
  simp (maxSteps := 2000000) only [vm, vr, reduceIte, Nat.reduceEqDiff, reduceCtorEq]
  (refine hK _ ?_; clear hK; clear K)
  refine c_ret1 ?_
  simp (maxSteps := 2000000) only [vm, vr, reduceIte, Nat.reduceEqDiff, reduceCtorEq]
  rotate_left
  simp (maxSteps := 2000000) only [vm, hb1]
  (refine hK _ ?_; clear hK; clear K)
  refine c_ret1 ?_
  simp (maxSteps := 2000000) only [vm, vr, reduceIte, Nat.reduceEqDiff, reduceCtorEq]
  rotate_left
  all_goals simp_all [rngL]
theorem spec83 (lo hi : Int) : Sp0 83 [.agg [nn lo, nn hi]] (R.v (.b (rngL lo hi))) := by
  refine spec_of mixed (fun _ _ _ h => h) Try.func83 (by decide +kernel) rfl (rs := _) rfl rfl (by simp [Try.f83]) (by decide +kernel) ?_; simp only [argsG]
  refine c_reg fun K hK => ?_
  simp (maxSteps := 2000000) only [vm, vr, reduceIte, Nat.reduceAdd]
  refine need_by (by first | assumption | omega | (simp; done) | (simp; omega)) ?_
  (refine hK _ ?_; clear hK; clear K)
  refine c_reg fun K hK => ?_
  simp (maxSteps := 2000000) only [vm, vr, q83, reduceIte, Nat.reduceEqDiff, Nat.reduceLeDiff, reduceCtorEq]
  (apply s_call (spec29 _ _ _); (case hf => rfl); (case hq => (simp (maxSteps := 2000000) only [vm, reduceIte, Nat.reduceEqDiff, reduceCtorEq]; rfl)); (case hvs => rfl))
  simp (maxSteps := 2000000) only [vm, vr, q83, reduceIte, Nat.reduceEqDiff, Nat.reduceAdd, Nat.reduceLeDiff, reduceCtorEq]
  refine guard_by (fun hb1 => ?_) (fun hb1 => ?_) <;> (have hp1 := hb1; try simp only [decide_eq_true_eq, decide_eq_false_iff_not, Bool.and_eq_true, Bool.or_eq_true, Bool.not_eq_true', Bool.not_eq_false', Bool.and_eq_false_iff, Bool.or_eq_false_iff, beq_iff_eq, bne_iff_ne, beq_eq_false_iff_ne, bne_eq_false_iff_eq, Bool.not_eq_false, Int.not_lt, Int.not_le] at hp1)
  simp (maxSteps := 2000000) only [vm, hb1]
  (apply s_call (spec29 _ _ _); (case hf => rfl); (case hq => (simp (maxSteps := 2000000) only [vm, reduceIte, Nat.reduceEqDiff, reduceCtorEq]; rfl)); (case hvs => rfl))
  simp (maxSteps := 2000000) only [vm, vr, reduceIte, Nat.reduceEqDiff, reduceCtorEq]
  (refine hK _ ?_; clear hK; clear K)
  refine c_ret1 ?_
  simp (maxSteps := 2000000) only [vm, vr, reduceIte, Nat.reduceEqDiff, reduceCtorEq]
  rotate_left
  simp (maxSteps := 2000000) only [vm, hb1]
  (refine hK _ ?_; clear hK; clear K)
  refine c_ret1 ?_
  simp (maxSteps := 2000000) only [vm, vr, reduceIte, Nat.reduceEqDiff, reduceCtorEq]
  rotate_left
  all_goals simp_all [rngL]
theorem spec13 (c0 c1 s0 s1 : Int) (es : List (Int × Int × Int)) : Sp0 13 [lawL c0 c1 s0 s1 es] (R.v (.b (decide ((es.length : Int) ≤ 12)))) := by
  refine spec_of mixed (fun _ _ _ h => h) Try.func13 (by decide +kernel) rfl (rs := _) rfl rfl (by simp [Try.f13]) (by decide +kernel) ?_; simp only [argsG]
  refine c_reg fun K hK => ?_
  simp (maxSteps := 2000000) only [vm, vr, reduceIte, Nat.reduceAdd]
  refine need_by (by first | assumption | omega | (simp; done) | (simp; omega)) ?_
  (refine hK _ ?_; clear hK; clear K)
  refine c_reg fun K hK => ?_
  simp (maxSteps := 2000000) only [vm, vr, q13, reduceIte, Nat.reduceEqDiff, Nat.reduceAdd, Nat.reduceLeDiff, reduceCtorEq]
  (refine hK _ ?_; clear hK; clear K)
  refine c_ret1 ?_
  simp (maxSteps := 2000000) only [vm, vr, reduceIte, Nat.reduceEqDiff, reduceCtorEq]
theorem spec16 (c0 c1 s0 s1 : Int) (es : List (Int × Int × Int)) (hl : es.length < 1000000) : Sp0 16 [lawL c0 c1 s0 s1 es] (R.v (lawL c0 c1 s0 s1 es)) := by
  refine spec_of mixed (fun _ _ _ h => h) Try.func16 (by decide +kernel) rfl (rs := _) rfl rfl (by simp [Try.f16]) (by decide +kernel) ?_; simp only [argsG]
  refine c_reg fun K hK => ?_
  simp (maxSteps := 2000000) only [vm, vr, q16, reduceIte, Nat.reduceEqDiff, Nat.reduceAdd, reduceCtorEq]
  refine need_by (by first | assumption | omega | (simp; done) | (simp; omega)) ?_
  refine need_by (by first | assumption | omega | (simp; done) | (simp; omega)) ?_
  (refine hK _ ?_; clear hK; clear K)
  refine c_reg fun K hK => ?_
  simp (maxSteps := 2000000) only [vm, vr, vp, q16, ve, reduceIte, Nat.reduceEqDiff, Nat.reduceAdd, Nat.reduceLeDiff, Nat.reduceMul, Nat.reduceLT, reduceCtorEq]
  refine need_by (by first | assumption | omega | (simp; done) | (simp; omega)) ?_
  refine need_by (by first | assumption | omega | (simp; done) | (simp; omega)) ?_
  (refine hK _ ?_; clear hK; clear K)
  refine c_reg fun K hK => ?_
  simp (maxSteps := 2000000) only [vm, vr, q16, @Option.map_none, reduceIte, Nat.reduceEqDiff, Nat.reduceAdd, Nat.reduceLeDiff, reduceCtorEq]
  (refine hK _ ?_; clear hK; clear K)
  refine c_ret1 ?_
  simp (maxSteps := 2000000) only [vm, vr, q16, @Option.map_none, reduceIte, Nat.reduceEqDiff, Nat.reduceAdd, Nat.reduceLeDiff, reduceCtorEq]
theorem head_zero {c0 c1 s0 s1 n : Int} (h : lawHead c0 c1 s0 s1 n = 0) : rngL c0 c1 = true ∧ rngL s0 s1 = true ∧ decide (c0 ≤ c1) = true ∧ decide (s0 ≤ s1) = true ∧ decide (n ≤ 10) = true := by
  unfold lawHead at h
  simp only [firstV_cons, firstV_nil] at h
  cases k1 : rngL c0 c1 <;> cases k2 : rngL s0 s1 <;> cases k3 : decide (c0 ≤ c1) <;> cases k4 : decide (s0 ≤ s1) <;> cases k5 : decide (n ≤ 10) <;> rw [k1, k2, k3, k4, k5] at h <;> first | (simp at h; done) | exact ⟨rfl, rfl, rfl, rfl, rfl⟩
theorem spec15w2 (c0 c1 s0 s1 : Int) (es : List (Int × Int × Int)) (hl : es.length < 1000000) (h0 : lawHead c0 c1 s0 s1 es.length ≠ 0) : Sp0 15 [lawL c0 c1 s0 s1 es] (R.v2 (nn (lawV c0 c1 s0 s1 es).1) (nn (lawV c0 c1 s0 s1 es).2)) := by
  have k0 : (lawHead c0 c1 s0 s1 es.length != 0) = true := by simpa using h0
  unfold lawV
  rw [if_pos h0]
  cases k1 : rngL c0 c1 with
  | true =>
    cases k3 : decide (c0 ≤ c1) with
    | true =>
      have hE : firstV [if rngL s0 s1 = true then 0 else 2, if decide (s0 ≤ s1) = true then 0 else 9, if decide ((es.length : Int) ≤ 10) = true then 0 else 8] = lawHead c0 c1 s0 s1 es.length := by unfold lawHead; rw [k1, k3]; first | rfl | (simp only [Bool.true_and, Bool.false_and]; rfl)
      refine spec_of mixed (fun _ _ _ h => h) Try.func15 (by decide +kernel) rfl (rs := _) rfl rfl (by simp [Try.f15]) (by decide +kernel) ?_; simp only [argsG]
      refine c_reg fun K hK => ?_
      simp (maxSteps := 2000000) only [vm, vr, reduceIte, Nat.reduceAdd]
      refine need_by (by first | assumption | omega | (simp; done) | (simp; omega)) ?_
      (refine hK _ ?_; clear hK; clear K)
      refine c_reg fun K hK => ?_
      simp (maxSteps := 2000000) only [vm, vr]
      (refine hK _ ?_; clear hK; clear K)
      refine c_draw fun K hK => ?_
      refine d_one fun K hK => ?_
      simp (maxSteps := 2000000) only [vm, vw, reduceIte, Nat.reduceEqDiff, reduceCtorEq]
      (refine hK _ ?_; clear hK; clear K)
      refine d_one fun K hK => ?_
      simp (maxSteps := 2000000) only [vm, vr, q15, vw, reduceIte, Nat.reduceEqDiff, Nat.reduceLeDiff, reduceCtorEq]
      (refine hK _ ?_; clear hK; clear K)
      refine d_one fun K hK => ?_
      simp (maxSteps := 2000000) only [vm, vr, q15, vw, reduceIte, Nat.reduceEqDiff, Nat.reduceAdd, Nat.reduceLeDiff, reduceCtorEq]
      (refine hK _ ?_; clear hK; clear K)
      (apply d_call (spec77 _ _); (case hf => rfl); (case hq => (simp (maxSteps := 2000000) only [vm, vr, reduceIte, Nat.reduceEqDiff, reduceCtorEq]; rfl)); (case hvs => rfl))
      refine d_one fun K hK => ?_
      simp (maxSteps := 2000000) only [vm, vr, k1, vw, reduceIte, Nat.reduceEqDiff, reduceCtorEq]
      (refine hK _ ?_; clear hK; clear K)
      refine d_oneg fun K hK => ?_
      simp (maxSteps := 2000000) only [vm, vr, k1, reduceIte, Nat.reduceEqDiff, reduceCtorEq]
      simp (maxSteps := 2000000) only [vm, vw, reduceIte, Nat.reduceEqDiff, reduceCtorEq]
      (refine hK _ ?_; clear hK; clear K)
      refine d_oneg fun K hK => ?_
      simp (maxSteps := 2000000) only [vm, vr, k1, reduceIte, Nat.reduceEqDiff, reduceCtorEq]
      simp (maxSteps := 2000000) only [vm, q15, vw, reduceIte, Nat.reduceEqDiff, Nat.reduceAdd, Nat.reduceLeDiff, reduceCtorEq]
      (refine hK _ ?_; clear hK; clear K)
      refine d_oneg fun K hK => ?_
      simp (maxSteps := 2000000) only [vm, vr, k1, reduceIte, Nat.reduceEqDiff, reduceCtorEq]
      simp (maxSteps := 2000000) only [vm, q15, vw, reduceIte, Nat.reduceEqDiff, Nat.reduceAdd, Nat.reduceLeDiff, reduceCtorEq]
      (refine hK _ ?_; clear hK; clear K)
      refine d_oneg fun K hK => ?_
      simp (maxSteps := 2000000) only [vm, vr, k1, reduceIte, Nat.reduceEqDiff, reduceCtorEq]
      simp (maxSteps := 2000000) only [vm, vw, reduceIte, Nat.reduceEqDiff, reduceCtorEq]
      (apply call_v (spec77 _ _); (case hq => (simp (maxSteps := 2000000) only [vm]; rfl)); (case hvs => rfl))
      (refine hK _ ?_; clear hK; clear K)
      refine d_one fun K hK => ?_
      simp (maxSteps := 2000000) only [vm, vr, k1, vw, reduceIte, Nat.reduceEqDiff, reduceCtorEq]
      (refine hK _ ?_; clear hK; clear K)
      (apply d_call (spec80 _ _); (case hf => rfl); (case hq => (simp (maxSteps := 2000000) only [vm, vr, k1, reduceIte, Nat.reduceEqDiff, reduceCtorEq]; rfl)); (case hvs => rfl))
      refine d_one fun K hK => ?_
      simp (maxSteps := 2000000) only [vm, vr, q15, k1, vw, reduceIte, Nat.reduceEqDiff, Nat.reduceLeDiff, reduceCtorEq]
      (refine hK _ ?_; clear hK; clear K)
      refine d_one fun K hK => ?_
      simp (maxSteps := 2000000) only [vm, vr, q15, k1, vw, reduceIte, Nat.reduceEqDiff, Nat.reduceLeDiff, reduceCtorEq]
      (refine hK _ ?_; clear hK; clear K)
      refine d_one fun K hK => ?_
      simp (maxSteps := 2000000) only [vm, vr, q15, k1, vw, reduceIte, Nat.reduceEqDiff, Nat.reduceLeDiff, reduceCtorEq]
      (refine hK _ ?_; clear hK; clear K)
      refine d_one fun K hK => ?_
      simp (maxSteps := 2000000) only [vm, vr, q15, k1, vw, reduceIte, Nat.reduceEqDiff, Nat.reduceLeDiff, reduceCtorEq]
      (refine hK _ ?_; clear hK; clear K)
      refine d_one fun K hK => ?_
      simp (maxSteps := 2000000) only [vm, vr, q15, k1, vw, reduceIte, Nat.reduceEqDiff, Nat.reduceAdd, Nat.reduceLeDiff, reduceCtorEq]
      (refine hK _ ?_; clear hK; clear K)
      refine d_one fun K hK => ?_
      simp (maxSteps := 2000000) only [vm, vr, q15, k1, vw, reduceIte, Nat.reduceEqDiff, Nat.reduceAdd, Nat.reduceLeDiff, reduceCtorEq]
      (refine hK _ ?_; clear hK; clear K)
      refine d_one fun K hK => ?_
      simp (maxSteps := 2000000) only [vm, vr, k1, k3, vw, reduceIte, Nat.reduceEqDiff, reduceCtorEq]
      (refine hK _ ?_; clear hK; clear K)
      refine d_one fun K hK => ?_
      simp (maxSteps := 2000000) only [vm, vr, k1, vw, reduceIte, Nat.reduceEqDiff, reduceCtorEq]
      (refine hK _ ?_; clear hK; clear K)
      refine d_oneg fun K hK => ?_
      simp (maxSteps := 2000000) only [vm, vr, k1, reduceIte, Nat.reduceEqDiff, reduceCtorEq]
      simp (maxSteps := 2000000) only [vm, q15, vw, reduceIte, Nat.reduceEqDiff, Nat.reduceAdd, Nat.reduceLeDiff, reduceCtorEq]
      (refine hK _ ?_; clear hK; clear K)
      refine d_oneg fun K hK => ?_
      simp (maxSteps := 2000000) only [vm, vr, k1, reduceIte, Nat.reduceEqDiff, reduceCtorEq]
      simp (maxSteps := 2000000) only [vm, q15, vw, reduceIte, Nat.reduceEqDiff, Nat.reduceAdd, Nat.reduceLeDiff, reduceCtorEq]
      (refine hK _ ?_; clear hK; clear K)
      refine d_oneg fun K hK => ?_
      simp (maxSteps := 2000000) only [vm, vr, k1, reduceIte, Nat.reduceEqDiff, reduceCtorEq]
      simp (maxSteps := 2000000) only [vm, q15, vw, reduceIte, Nat.reduceEqDiff, Nat.reduceAdd, Nat.reduceLeDiff, reduceCtorEq]
      (refine hK _ ?_; clear hK; clear K)
      refine d_oneg fun K hK => ?_
      simp (maxSteps := 2000000) only [vm, vr, k1, reduceIte, Nat.reduceEqDiff, reduceCtorEq]
      simp (maxSteps := 2000000) only [vm, q15, vw, reduceIte, Nat.reduceEqDiff, Nat.reduceAdd, Nat.reduceLeDiff, reduceCtorEq]
      (refine hK _ ?_; clear hK; clear K)
      simp (maxSteps := 2000000) only [vm, vr, q15, k1, reduceIte, Nat.reduceEqDiff, Nat.reduceAdd, Nat.reduceLeDiff, reduceCtorEq]
      (apply d_call (spec80 _ _); (case hf => rfl); (case hq => (simp (maxSteps := 2000000) only [vm, reduceIte, Nat.reduceEqDiff, reduceCtorEq]; rfl)); (case hvs => rfl))
      simp (maxSteps := 2000000) only [vm, vr, q15, reduceIte, Nat.reduceEqDiff, Nat.reduceAdd, Nat.reduceLeDiff, reduceCtorEq]
      (apply d_call (spec80 _ _); (case hf => rfl); (case hq => (simp (maxSteps := 2000000) only [vm, reduceIte, Nat.reduceEqDiff, reduceCtorEq]; rfl)); (case hvs => rfl))
      simp (maxSteps := 2000000) only [vm, vr, q15, reduceIte, Nat.reduceEqDiff, Nat.reduceAdd, Nat.reduceLeDiff, Nat.reduceMul, reduceCtorEq]
      refine need_by (by first | assumption | omega | (simp; done) | (simp; omega)) ?_
      (apply d_call (spec79w3 _ _ _); (case hf => rfl); (case hq => (simp (maxSteps := 2000000) only [vm, reduceIte, Nat.reduceEqDiff, reduceCtorEq]; rfl)); (case hvs => rfl))
      simp (maxSteps := 2000000) only [vm, vr, hE, reduceIte, Nat.reduceEqDiff, reduceCtorEq]
      (refine draw_ok (by decide +kernel) (hK _ ?_); clear hK; clear K)
      refine c_assoc ?_
      refine c_reg fun K hK => ?_
      simp (maxSteps := 2000000) only [vm, vr, k0, reduceIte, Nat.reduceEqDiff, reduceCtorEq]
      (refine hK _ ?_; clear hK; clear K)
      refine c_if _ rfl (fun hb1 => ?_) (fun hb1 => ?_) <;> (have hp1 := hb1; try simp only [] at hp1)
      refine c_assoc ?_
      refine c_reg fun K hK => ?_
      simp (maxSteps := 2000000) only [vm, vr, reduceIte, Nat.reduceEqDiff, reduceCtorEq]
      (refine hK _ ?_; clear hK; clear K)
      refine c_ret ?_
      simp (maxSteps := 2000000) only [vm, vr, vp, reduceIte, Nat.reduceEqDiff, reduceCtorEq]
      cases hb1
    | false =>
      have hE : firstV [if rngL s0 s1 = true then 0 else 2, 9, if decide ((es.length : Int) ≤ 10) = true then 0 else 8] = lawHead c0 c1 s0 s1 es.length := by unfold lawHead; rw [k1, k3]; first | rfl | (simp only [Bool.true_and, Bool.false_and]; rfl)
      refine spec_of mixed (fun _ _ _ h => h) Try.func15 (by decide +kernel) rfl (rs := _) rfl rfl (by simp [Try.f15]) (by decide +kernel) ?_; simp only [argsG]
      refine c_reg fun K hK => ?_
      simp (maxSteps := 2000000) only [vm, vr, reduceIte, Nat.reduceAdd]
      refine need_by (by first | assumption | omega | (simp; done) | (simp; omega)) ?_
      (refine hK _ ?_; clear hK; clear K)
      refine c_reg fun K hK => ?_
      simp (maxSteps := 2000000) only [vm, vr]
      (refine hK _ ?_; clear hK; clear K)
      refine c_draw fun K hK => ?_
      refine d_one fun K hK => ?_
      simp (maxSteps := 2000000) only [vm, vw, reduceIte, Nat.reduceEqDiff, reduceCtorEq]
      (refine hK _ ?_; clear hK; clear K)
      refine d_one fun K hK => ?_
      simp (maxSteps := 2000000) only [vm, vr, q15, vw, reduceIte, Nat.reduceEqDiff, Nat.reduceLeDiff, reduceCtorEq]
      (refine hK _ ?_; clear hK; clear K)
      refine d_one fun K hK => ?_
      simp (maxSteps := 2000000) only [vm, vr, q15, vw, reduceIte, Nat.reduceEqDiff, Nat.reduceAdd, Nat.reduceLeDiff, reduceCtorEq]
      (refine hK _ ?_; clear hK; clear K)
      (apply d_call (spec77 _ _); (case hf => rfl); (case hq => (simp (maxSteps := 2000000) only [vm, vr, reduceIte, Nat.reduceEqDiff, reduceCtorEq]; rfl)); (case hvs => rfl))
      refine d_one fun K hK => ?_
      simp (maxSteps := 2000000) only [vm, vr, k1, vw, reduceIte, Nat.reduceEqDiff, reduceCtorEq]
      (refine hK _ ?_; clear hK; clear K)
      refine d_oneg fun K hK => ?_
      simp (maxSteps := 2000000) only [vm, vr, k1, reduceIte, Nat.reduceEqDiff, reduceCtorEq]
      simp (maxSteps := 2000000) only [vm, vw, reduceIte, Nat.reduceEqDiff, reduceCtorEq]
      (refine hK _ ?_; clear hK; clear K)
      refine d_oneg fun K hK => ?_
      simp (maxSteps := 2000000) only [vm, vr, k1, reduceIte, Nat.reduceEqDiff, reduceCtorEq]
      simp (maxSteps := 2000000) only [vm, q15, vw, reduceIte, Nat.reduceEqDiff, Nat.reduceAdd, Nat.reduceLeDiff, reduceCtorEq]
      (refine hK _ ?_; clear hK; clear K)
      refine d_oneg fun K hK => ?_
      simp (maxSteps := 2000000) only [vm, vr, k1, reduceIte, Nat.reduceEqDiff, reduceCtorEq]
      simp (maxSteps := 2000000) only [vm, q15, vw, reduceIte, Nat.reduceEqDiff, Nat.reduceAdd, Nat.reduceLeDiff, reduceCtorEq]
      (refine hK _ ?_; clear hK; clear K)
      refine d_oneg fun K hK => ?_
      simp (maxSteps := 2000000) only [vm, vr, k1, reduceIte, Nat.reduceEqDiff, reduceCtorEq]
      simp (maxSteps := 2000000) only [vm, vw, reduceIte, Nat.reduceEqDiff, reduceCtorEq]
      (apply call_v (spec77 _ _); (case hq => (simp (maxSteps := 2000000) only [vm]; rfl)); (case hvs => rfl))
      (refine hK _ ?_; clear hK; clear K)
      refine d_one fun K hK => ?_
      simp (maxSteps := 2000000) only [vm, vr, k1, vw, reduceIte, Nat.reduceEqDiff, reduceCtorEq]
      (refine hK _ ?_; clear hK; clear K)
      (apply d_call (spec80 _ _); (case hf => rfl); (case hq => (simp (maxSteps := 2000000) only [vm, vr, k1, reduceIte, Nat.reduceEqDiff, reduceCtorEq]; rfl)); (case hvs => rfl))
      refine d_one fun K hK => ?_
      simp (maxSteps := 2000000) only [vm, vr, q15, k1, vw, reduceIte, Nat.reduceEqDiff, Nat.reduceLeDiff, reduceCtorEq]
      (refine hK _ ?_; clear hK; clear K)
      refine d_one fun K hK => ?_
      simp (maxSteps := 2000000) only [vm, vr, q15, k1, vw, reduceIte, Nat.reduceEqDiff, Nat.reduceLeDiff, reduceCtorEq]
      (refine hK _ ?_; clear hK; clear K)
      refine d_one fun K hK => ?_
      simp (maxSteps := 2000000) only [vm, vr, q15, k1, vw, reduceIte, Nat.reduceEqDiff, Nat.reduceLeDiff, reduceCtorEq]
      (refine hK _ ?_; clear hK; clear K)
      refine d_one fun K hK => ?_
      simp (maxSteps := 2000000) only [vm, vr, q15, k1, vw, reduceIte, Nat.reduceEqDiff, Nat.reduceLeDiff, reduceCtorEq]
      (refine hK _ ?_; clear hK; clear K)
      refine d_one fun K hK => ?_
      simp (maxSteps := 2000000) only [vm, vr, q15, k1, vw, reduceIte, Nat.reduceEqDiff, Nat.reduceAdd, Nat.reduceLeDiff, reduceCtorEq]
      (refine hK _ ?_; clear hK; clear K)
      refine d_one fun K hK => ?_
      simp (maxSteps := 2000000) only [vm, vr, q15, k1, vw, reduceIte, Nat.reduceEqDiff, Nat.reduceAdd, Nat.reduceLeDiff, reduceCtorEq]
      (refine hK _ ?_; clear hK; clear K)
      refine d_one fun K hK => ?_
      simp (maxSteps := 2000000) only [vm, vr, k1, k3, vw, reduceIte, Nat.reduceEqDiff, reduceCtorEq]
      (refine hK _ ?_; clear hK; clear K)
      refine d_one fun K hK => ?_
      simp (maxSteps := 2000000) only [vm, vr, k1, vw, reduceIte, Nat.reduceEqDiff, reduceCtorEq]
      (refine hK _ ?_; clear hK; clear K)
      refine d_oneg fun K hK => ?_
      simp (maxSteps := 2000000) only [vm, vr, k1, reduceIte, Nat.reduceEqDiff, reduceCtorEq]
      (refine hK _ ?_; clear hK; clear K)
      refine d_oneg fun K hK => ?_
      simp (maxSteps := 2000000) only [vm, vr, k1, reduceIte, Nat.reduceEqDiff, reduceCtorEq]
      (refine hK _ ?_; clear hK; clear K)
      refine d_oneg fun K hK => ?_
      simp (maxSteps := 2000000) only [vm, vr, k1, reduceIte, Nat.reduceEqDiff, reduceCtorEq]
      (refine hK _ ?_; clear hK; clear K)
      refine d_oneg fun K hK => ?_
      simp (maxSteps := 2000000) only [vm, vr, k1, reduceIte, Nat.reduceEqDiff, reduceCtorEq]
      (refine hK _ ?_; clear hK; clear K)
      simp (maxSteps := 2000000) only [vm, vr, k1, reduceIte, Nat.reduceEqDiff, reduceCtorEq]
      (apply d_call (spec80 _ _); (case hf => rfl); (case hq => (simp (maxSteps := 2000000) only [vm, reduceIte, Nat.reduceEqDiff, reduceCtorEq]; rfl)); (case hvs => rfl))
      simp (maxSteps := 2000000) only [vm, vr, q15, reduceIte, Nat.reduceEqDiff, Nat.reduceAdd, Nat.reduceLeDiff, reduceCtorEq]
      (apply d_call (spec80 _ _); (case hf => rfl); (case hq => (simp (maxSteps := 2000000) only [vm, reduceIte, Nat.reduceEqDiff, reduceCtorEq]; rfl)); (case hvs => rfl))
      simp (maxSteps := 2000000) only [vm, vr, q15, reduceIte, Nat.reduceEqDiff, Nat.reduceAdd, Nat.reduceLeDiff, Nat.reduceMul, reduceCtorEq]
      refine need_by (by first | assumption | omega | (simp; done) | (simp; omega)) ?_
      (apply d_call (spec79w3 _ _ _); (case hf => rfl); (case hq => (simp (maxSteps := 2000000) only [vm, reduceIte, Nat.reduceEqDiff, reduceCtorEq]; rfl)); (case hvs => rfl))
      simp (maxSteps := 2000000) only [vm, vr, hE, reduceIte, Nat.reduceEqDiff, reduceCtorEq]
      (refine draw_ok (by decide +kernel) (hK _ ?_); clear hK; clear K)
      refine c_assoc ?_
      refine c_reg fun K hK => ?_
      simp (maxSteps := 2000000) only [vm, vr, k0, reduceIte, Nat.reduceEqDiff, reduceCtorEq]
      (refine hK _ ?_; clear hK; clear K)
      refine c_if _ rfl (fun hb1 => ?_) (fun hb1 => ?_) <;> (have hp1 := hb1; try simp only [] at hp1)
      refine c_assoc ?_
      refine c_reg fun K hK => ?_
      simp (maxSteps := 2000000) only [vm, vr, reduceIte, Nat.reduceEqDiff, reduceCtorEq]
      (refine hK _ ?_; clear hK; clear K)
      refine c_ret ?_
      simp (maxSteps := 2000000) only [vm, vr, vp, reduceIte, Nat.reduceEqDiff, reduceCtorEq]
      cases hb1
  | false =>
    cases k3 : decide (c0 ≤ c1) with
    | true =>
      have hE : firstV [2, if decide (s0 ≤ s1) = true then 0 else 9, if decide ((es.length : Int) ≤ 10) = true then 0 else 8] = lawHead c0 c1 s0 s1 es.length := by unfold lawHead; rw [k1, k3]; first | rfl | (simp only [Bool.true_and, Bool.false_and]; rfl)
      refine spec_of mixed (fun _ _ _ h => h) Try.func15 (by decide +kernel) rfl (rs := _) rfl rfl (by simp [Try.f15]) (by decide +kernel) ?_; simp only [argsG]
      refine c_reg fun K hK => ?_
      simp (maxSteps := 2000000) only [vm, vr, reduceIte, Nat.reduceAdd]
      refine need_by (by first | assumption | omega | (simp; done) | (simp; omega)) ?_
      (refine hK _ ?_; clear hK; clear K)
      refine c_reg fun K hK => ?_
      simp (maxSteps := 2000000) only [vm, vr]
      (refine hK _ ?_; clear hK; clear K)
      refine c_draw fun K hK => ?_
      refine d_one fun K hK => ?_
      simp (maxSteps := 2000000) only [vm, vw, reduceIte, Nat.reduceEqDiff, reduceCtorEq]
      (refine hK _ ?_; clear hK; clear K)
      refine d_one fun K hK => ?_
      simp (maxSteps := 2000000) only [vm, vr, q15, vw, reduceIte, Nat.reduceEqDiff, Nat.reduceLeDiff, reduceCtorEq]
      (refine hK _ ?_; clear hK; clear K)
      refine d_one fun K hK => ?_
      simp (maxSteps := 2000000) only [vm, vr, q15, vw, reduceIte, Nat.reduceEqDiff, Nat.reduceAdd, Nat.reduceLeDiff, reduceCtorEq]
      (refine hK _ ?_; clear hK; clear K)
      (apply d_call (spec77 _ _); (case hf => rfl); (case hq => (simp (maxSteps := 2000000) only [vm, vr, reduceIte, Nat.reduceEqDiff, reduceCtorEq]; rfl)); (case hvs => rfl))
      refine d_one fun K hK => ?_
      simp (maxSteps := 2000000) only [vm, vr, k1, vw, reduceIte, Nat.reduceEqDiff, reduceCtorEq]
      (refine hK _ ?_; clear hK; clear K)
      refine d_oneg fun K hK => ?_
      simp (maxSteps := 2000000) only [vm, vr, k1, reduceIte, Nat.reduceEqDiff, reduceCtorEq]
      (refine hK _ ?_; clear hK; clear K)
      refine d_oneg fun K hK => ?_
      simp (maxSteps := 2000000) only [vm, vr, k1, reduceIte, Nat.reduceEqDiff, reduceCtorEq]
      (refine hK _ ?_; clear hK; clear K)
      refine d_oneg fun K hK => ?_
      simp (maxSteps := 2000000) only [vm, vr, k1, reduceIte, Nat.reduceEqDiff, reduceCtorEq]
      (refine hK _ ?_; clear hK; clear K)
      refine d_oneg fun K hK => ?_
      simp (maxSteps := 2000000) only [vm, vr, k1, reduceIte, Nat.reduceEqDiff, reduceCtorEq]
      (refine hK _ ?_; clear hK; clear K)
      refine d_one fun K hK => ?_
      simp (maxSteps := 2000000) only [vm, vr, k1, vw, reduceIte, Nat.reduceEqDiff, reduceCtorEq]
      (refine hK _ ?_; clear hK; clear K)
      (apply d_call (spec80 _ _); (case hf => rfl); (case hq => (simp (maxSteps := 2000000) only [vm, vr, k1, reduceIte, Nat.reduceEqDiff, reduceCtorEq]; rfl)); (case hvs => rfl))
      refine d_one fun K hK => ?_
      simp (maxSteps := 2000000) only [vm, vr, q15, k1, vw, reduceIte, Nat.reduceEqDiff, Nat.reduceLeDiff, reduceCtorEq]
      (refine hK _ ?_; clear hK; clear K)
      refine d_one fun K hK => ?_
      simp (maxSteps := 2000000) only [vm, vr, q15, k1, vw, reduceIte, Nat.reduceEqDiff, Nat.reduceLeDiff, reduceCtorEq]
      (refine hK _ ?_; clear hK; clear K)
      refine d_one fun K hK => ?_
      simp (maxSteps := 2000000) only [vm, vr, q15, k1, vw, reduceIte, Nat.reduceEqDiff, Nat.reduceLeDiff, reduceCtorEq]
      (refine hK _ ?_; clear hK; clear K)
      refine d_one fun K hK => ?_
      simp (maxSteps := 2000000) only [vm, vr, q15, k1, vw, reduceIte, Nat.reduceEqDiff, Nat.reduceLeDiff, reduceCtorEq]
      (refine hK _ ?_; clear hK; clear K)
      refine d_one fun K hK => ?_
      simp (maxSteps := 2000000) only [vm, vr, q15, k1, vw, reduceIte, Nat.reduceEqDiff, Nat.reduceAdd, Nat.reduceLeDiff, reduceCtorEq]
      (refine hK _ ?_; clear hK; clear K)
      refine d_one fun K hK => ?_
      simp (maxSteps := 2000000) only [vm, vr, q15, k1, vw, reduceIte, Nat.reduceEqDiff, Nat.reduceAdd, Nat.reduceLeDiff, reduceCtorEq]
      (refine hK _ ?_; clear hK; clear K)
      refine d_one fun K hK => ?_
      simp (maxSteps := 2000000) only [vm, vr, k1, k3, vw, reduceIte, Nat.reduceEqDiff, reduceCtorEq]
      (refine hK _ ?_; clear hK; clear K)
      refine d_one fun K hK => ?_
      simp (maxSteps := 2000000) only [vm, vr, k1, vw, reduceIte, Nat.reduceEqDiff, reduceCtorEq]
      (refine hK _ ?_; clear hK; clear K)
      refine d_oneg fun K hK => ?_
      simp (maxSteps := 2000000) only [vm, vr, k1, reduceIte, Nat.reduceEqDiff, reduceCtorEq]
      simp (maxSteps := 2000000) only [vm, q15, vw, reduceIte, Nat.reduceEqDiff, Nat.reduceAdd, Nat.reduceLeDiff, reduceCtorEq]
      (refine hK _ ?_; clear hK; clear K)
      refine d_oneg fun K hK => ?_
      simp (maxSteps := 2000000) only [vm, vr, k1, reduceIte, Nat.reduceEqDiff, reduceCtorEq]
      simp (maxSteps := 2000000) only [vm, q15, vw, reduceIte, Nat.reduceEqDiff, Nat.reduceAdd, Nat.reduceLeDiff, reduceCtorEq]
      (refine hK _ ?_; clear hK; clear K)
      refine d_oneg fun K hK => ?_
      simp (maxSteps := 2000000) only [vm, vr, k1, reduceIte, Nat.reduceEqDiff, reduceCtorEq]
      simp (maxSteps := 2000000) only [vm, q15, vw, reduceIte, Nat.reduceEqDiff, Nat.reduceAdd, Nat.reduceLeDiff, reduceCtorEq]
      (refine hK _ ?_; clear hK; clear K)
      refine d_oneg fun K hK => ?_
      simp (maxSteps := 2000000) only [vm, vr, k1, reduceIte, Nat.reduceEqDiff, reduceCtorEq]
      simp (maxSteps := 2000000) only [vm, q15, vw, reduceIte, Nat.reduceEqDiff, Nat.reduceAdd, Nat.reduceLeDiff, reduceCtorEq]
      (refine hK _ ?_; clear hK; clear K)
      simp (maxSteps := 2000000) only [vm, vr, q15, k1, reduceIte, Nat.reduceEqDiff, Nat.reduceAdd, Nat.reduceLeDiff, reduceCtorEq]
      (apply d_call (spec80 _ _); (case hf => rfl); (case hq => (simp (maxSteps := 2000000) only [vm, reduceIte, Nat.reduceEqDiff, reduceCtorEq]; rfl)); (case hvs => rfl))
      simp (maxSteps := 2000000) only [vm, vr, q15, reduceIte, Nat.reduceEqDiff, Nat.reduceAdd, Nat.reduceLeDiff, reduceCtorEq]
      (apply d_call (spec80 _ _); (case hf => rfl); (case hq => (simp (maxSteps := 2000000) only [vm, reduceIte, Nat.reduceEqDiff, reduceCtorEq]; rfl)); (case hvs => rfl))
      simp (maxSteps := 2000000) only [vm, vr, q15, reduceIte, Nat.reduceEqDiff, Nat.reduceAdd, Nat.reduceLeDiff, Nat.reduceMul, reduceCtorEq]
      refine need_by (by first | assumption | omega | (simp; done) | (simp; omega)) ?_
      (apply d_call (spec79w3 _ _ _); (case hf => rfl); (case hq => (simp (maxSteps := 2000000) only [vm, reduceIte, Nat.reduceEqDiff, reduceCtorEq]; rfl)); (case hvs => rfl))
      simp (maxSteps := 2000000) only [vm, vr, hE, reduceIte, Nat.reduceEqDiff, reduceCtorEq]
      (refine draw_ok (by decide +kernel) (hK _ ?_); clear hK; clear K)
      refine c_assoc ?_
      refine c_reg fun K hK => ?_
      simp (maxSteps := 2000000) only [vm, vr, k0, reduceIte, Nat.reduceEqDiff, reduceCtorEq]
      (refine hK _ ?_; clear hK; clear K)
      refine c_if _ rfl (fun hb1 => ?_) (fun hb1 => ?_) <;> (have hp1 := hb1; try simp only [] at hp1)
      refine c_assoc ?_
      refine c_reg fun K hK => ?_
      simp (maxSteps := 2000000) only [vm, vr, reduceIte, Nat.reduceEqDiff, reduceCtorEq]
      (refine hK _ ?_; clear hK; clear K)
      refine c_ret ?_
      simp (maxSteps := 2000000) only [vm, vr, vp, reduceIte, Nat.reduceEqDiff, reduceCtorEq]
      cases hb1
    | false =>
      have hE : firstV [2, 9, if decide ((es.length : Int) ≤ 10) = true then 0 else 8] = lawHead c0 c1 s0 s1 es.length := by unfold lawHead; rw [k1, k3]; first | rfl | (simp only [Bool.true_and, Bool.false_and]; rfl)
      refine spec_of mixed (fun _ _ _ h => h) Try.func15 (by decide +kernel) rfl (rs := _) rfl rfl (by simp [Try.f15]) (by decide +kernel) ?_; simp only [argsG]
      refine c_reg fun K hK => ?_
      simp (maxSteps := 2000000) only [vm, vr, reduceIte, Nat.reduceAdd]
      refine need_by (by first | assumption | omega | (simp; done) | (simp; omega)) ?_
      (refine hK _ ?_; clear hK; clear K)
      refine c_reg fun K hK => ?_
      simp (maxSteps := 2000000) only [vm, vr]
      (refine hK _ ?_; clear hK; clear K)
      refine c_draw fun K hK => ?_
      refine d_one fun K hK => ?_
      simp (maxSteps := 2000000) only [vm, vw, reduceIte, Nat.reduceEqDiff, reduceCtorEq]
      (refine hK _ ?_; clear hK; clear K)
      refine d_one fun K hK => ?_
      simp (maxSteps := 2000000) only [vm, vr, q15, vw, reduceIte, Nat.reduceEqDiff, Nat.reduceLeDiff, reduceCtorEq]
      (refine hK _ ?_; clear hK; clear K)
      refine d_one fun K hK => ?_
      simp (maxSteps := 2000000) only [vm, vr, q15, vw, reduceIte, Nat.reduceEqDiff, Nat.reduceAdd, Nat.reduceLeDiff, reduceCtorEq]
      (refine hK _ ?_; clear hK; clear K)
      (apply d_call (spec77 _ _); (case hf => rfl); (case hq => (simp (maxSteps := 2000000) only [vm, vr, reduceIte, Nat.reduceEqDiff, reduceCtorEq]; rfl)); (case hvs => rfl))
      refine d_one fun K hK => ?_
      simp (maxSteps := 2000000) only [vm, vr, k1, vw, reduceIte, Nat.reduceEqDiff, reduceCtorEq]
      (refine hK _ ?_; clear hK; clear K)
      refine d_oneg fun K hK => ?_
      simp (maxSteps := 2000000) only [vm, vr, k1, reduceIte, Nat.reduceEqDiff, reduceCtorEq]
      (refine hK _ ?_; clear hK; clear K)
      refine d_oneg fun K hK => ?_
      simp (maxSteps := 2000000) only [vm, vr, k1, reduceIte, Nat.reduceEqDiff, reduceCtorEq]
      (refine hK _ ?_; clear hK; clear K)
      refine d_oneg fun K hK => ?_
      simp (maxSteps := 2000000) only [vm, vr, k1, reduceIte, Nat.reduceEqDiff, reduceCtorEq]
      (refine hK _ ?_; clear hK; clear K)
      refine d_oneg fun K hK => ?_
      simp (maxSteps := 2000000) only [vm, vr, k1, reduceIte, Nat.reduceEqDiff, reduceCtorEq]
      (refine hK _ ?_; clear hK; clear K)
      refine d_one fun K hK => ?_
      simp (maxSteps := 2000000) only [vm, vr, k1, vw, reduceIte, Nat.reduceEqDiff, reduceCtorEq]
      (refine hK _ ?_; clear hK; clear K)
      (apply d_call (spec80 _ _); (case hf => rfl); (case hq => (simp (maxSteps := 2000000) only [vm, vr, k1, reduceIte, Nat.reduceEqDiff, reduceCtorEq]; rfl)); (case hvs => rfl))
      refine d_one fun K hK => ?_
      simp (maxSteps := 2000000) only [vm, vr, q15, k1, vw, reduceIte, Nat.reduceEqDiff, Nat.reduceLeDiff, reduceCtorEq]
      (refine hK _ ?_; clear hK; clear K)
      refine d_one fun K hK => ?_
      simp (maxSteps := 2000000) only [vm, vr, q15, k1, vw, reduceIte, Nat.reduceEqDiff, Nat.reduceLeDiff, reduceCtorEq]
      (refine hK _ ?_; clear hK; clear K)
      refine d_one fun K hK => ?_
      simp (maxSteps := 2000000) only [vm, vr, q15, k1, vw, reduceIte, Nat.reduceEqDiff, Nat.reduceLeDiff, reduceCtorEq]
      (refine hK _ ?_; clear hK; clear K)
      refine d_one fun K hK => ?_
      simp (maxSteps := 2000000) only [vm, vr, q15, k1, vw, reduceIte, Nat.reduceEqDiff, Nat.reduceLeDiff, reduceCtorEq]
      (refine hK _ ?_; clear hK; clear K)
      refine d_one fun K hK => ?_
      simp (maxSteps := 2000000) only [vm, vr, q15, k1, vw, reduceIte, Nat.reduceEqDiff, Nat.reduceAdd, Nat.reduceLeDiff, reduceCtorEq]
      (refine hK _ ?_; clear hK; clear K)
      refine d_one fun K hK => ?_
      simp (maxSteps := 2000000) only [vm, vr, q15, k1, vw, reduceIte, Nat.reduceEqDiff, Nat.reduceAdd, Nat.reduceLeDiff, reduceCtorEq]
      (refine hK _ ?_; clear hK; clear K)
      refine d_one fun K hK => ?_
      simp (maxSteps := 2000000) only [vm, vr, k1, k3, vw, reduceIte, Nat.reduceEqDiff, reduceCtorEq]
      (refine hK _ ?_; clear hK; clear K)
      refine d_one fun K hK => ?_
      simp (maxSteps := 2000000) only [vm, vr, k1, vw, reduceIte, Nat.reduceEqDiff, reduceCtorEq]
      (refine hK _ ?_; clear hK; clear K)
      refine d_oneg fun K hK => ?_
      simp (maxSteps := 2000000) only [vm, vr, k1, reduceIte, Nat.reduceEqDiff, reduceCtorEq]
      (refine hK _ ?_; clear hK; clear K)
      refine d_oneg fun K hK => ?_
      simp (maxSteps := 2000000) only [vm, vr, k1, reduceIte, Nat.reduceEqDiff, reduceCtorEq]
      (refine hK _ ?_; clear hK; clear K)
      refine d_oneg fun K hK => ?_
      simp (maxSteps := 2000000) only [vm, vr, k1, reduceIte, Nat.reduceEqDiff, reduceCtorEq]
      (refine hK _ ?_; clear hK; clear K)
      refine d_oneg fun K hK => ?_
      simp (maxSteps := 2000000) only [vm, vr, k1, reduceIte, Nat.reduceEqDiff, reduceCtorEq]
      (refine hK _ ?_; clear hK; clear K)
      simp (maxSteps := 2000000) only [vm, vr, k1, reduceIte, Nat.reduceEqDiff, reduceCtorEq]
      (apply d_call (spec80 _ _); (case hf => rfl); (case hq => (simp (maxSteps := 2000000) only [vm, reduceIte, Nat.reduceEqDiff, reduceCtorEq]; rfl)); (case hvs => rfl))
      simp (maxSteps := 2000000) only [vm, vr, q15, reduceIte, Nat.reduceEqDiff, Nat.reduceAdd, Nat.reduceLeDiff, reduceCtorEq]
      (apply d_call (spec80 _ _); (case hf => rfl); (case hq => (simp (maxSteps := 2000000) only [vm, reduceIte, Nat.reduceEqDiff, reduceCtorEq]; rfl)); (case hvs => rfl))
      simp (maxSteps := 2000000) only [vm, vr, q15, reduceIte, Nat.reduceEqDiff, Nat.reduceAdd, Nat.reduceLeDiff, Nat.reduceMul, reduceCtorEq]
      refine need_by (by first | assumption | omega | (simp; done) | (simp; omega)) ?_
      (apply d_call (spec79w3 _ _ _); (case hf => rfl); (case hq => (simp (maxSteps := 2000000) only [vm, reduceIte, Nat.reduceEqDiff, reduceCtorEq]; rfl)); (case hvs => rfl))
      simp (maxSteps := 2000000) only [vm, vr, hE, reduceIte, Nat.reduceEqDiff, reduceCtorEq]
      (refine draw_ok (by decide +kernel) (hK _ ?_); clear hK; clear K)
      refine c_assoc ?_
      refine c_reg fun K hK => ?_
      simp (maxSteps := 2000000) only [vm, vr, k0, reduceIte, Nat.reduceEqDiff, reduceCtorEq]
      (refine hK _ ?_; clear hK; clear K)
      refine c_if _ rfl (fun hb1 => ?_) (fun hb1 => ?_) <;> (have hp1 := hb1; try simp only [] at hp1)
      refine c_assoc ?_
      refine c_reg fun K hK => ?_
      simp (maxSteps := 2000000) only [vm, vr, reduceIte, Nat.reduceEqDiff, reduceCtorEq]
      (refine hK _ ?_; clear hK; clear K)
      refine c_ret ?_
      simp (maxSteps := 2000000) only [vm, vr, vp, reduceIte, Nat.reduceEqDiff, reduceCtorEq]
      cases hb1
theorem spec15w1 (c0 c1 s0 s1 : Int) (es : List (Int × Int × Int)) (hl : es.length < 1000000) (h0 : lawHead c0 c1 s0 s1 es.length = 0) : Sp0 15 [lawL c0 c1 s0 s1 es] (R.v2 (nn (lawV c0 c1 s0 s1 es).1) (nn (lawV c0 c1 s0 s1 es).2)) := by
  obtain ⟨k1, k2, k3, k4, k5⟩ := head_zero h0
  have hs : lawV c0 c1 s0 s1 es = evAt es 0 (es.length - 0) := by unfold lawV; rw [if_neg (by rw [h0]; simp)]; rfl
  have f0 : firstV [0, 0, 0] = 0 := rfl
  refine spec_of mixed (fun _ _ _ h => h) Try.func15 (by decide +kernel) rfl (rs := _) rfl rfl (by simp [Try.f15]) (by decide +kernel) ?_; simp only [argsG]
  refine c_reg fun K hK => ?_
  simp (maxSteps := 2000000) only [vm, vr, reduceIte, Nat.reduceAdd]
  refine need_by (by first | assumption | omega | (simp; done) | (simp; omega)) ?_
  (refine hK _ ?_; clear hK; clear K)
  refine c_reg fun K hK => ?_
  simp (maxSteps := 2000000) only [vm, vr]
  (refine hK _ ?_; clear hK; clear K)
  refine c_draw fun K hK => ?_
  refine d_one fun K hK => ?_
  simp (maxSteps := 2000000) only [vm, vw, reduceIte, Nat.reduceEqDiff, reduceCtorEq]
  (refine hK _ ?_; clear hK; clear K)
  refine d_one fun K hK => ?_
  simp (maxSteps := 2000000) only [vm, vr, q15, vw, reduceIte, Nat.reduceEqDiff, Nat.reduceLeDiff, reduceCtorEq]
  (refine hK _ ?_; clear hK; clear K)
  refine d_one fun K hK => ?_
  simp (maxSteps := 2000000) only [vm, vr, q15, vw, reduceIte, Nat.reduceEqDiff, Nat.reduceAdd, Nat.reduceLeDiff, reduceCtorEq]
  (refine hK _ ?_; clear hK; clear K)
  (apply d_call (spec77 _ _); (case hf => rfl); (case hq => (simp (maxSteps := 2000000) only [vm, vr, reduceIte, Nat.reduceEqDiff, reduceCtorEq]; rfl)); (case hvs => rfl))
  refine d_one fun K hK => ?_
  simp (maxSteps := 2000000) only [vm, vr, k1, vw, reduceIte, Nat.reduceEqDiff, reduceCtorEq]
  (refine hK _ ?_; clear hK; clear K)
  refine d_oneg fun K hK => ?_
  simp (maxSteps := 2000000) only [vm, vr, k1, reduceIte, Nat.reduceEqDiff, reduceCtorEq]
  simp (maxSteps := 2000000) only [vm, vw, reduceIte, Nat.reduceEqDiff, reduceCtorEq]
  (refine hK _ ?_; clear hK; clear K)
  refine d_oneg fun K hK => ?_
  simp (maxSteps := 2000000) only [vm, vr, k1, reduceIte, Nat.reduceEqDiff, reduceCtorEq]
  simp (maxSteps := 2000000) only [vm, q15, vw, reduceIte, Nat.reduceEqDiff, Nat.reduceAdd, Nat.reduceLeDiff, reduceCtorEq]
  (refine hK _ ?_; clear hK; clear K)
  refine d_oneg fun K hK => ?_
  simp (maxSteps := 2000000) only [vm, vr, k1, reduceIte, Nat.reduceEqDiff, reduceCtorEq]
  simp (maxSteps := 2000000) only [vm, q15, vw, reduceIte, Nat.reduceEqDiff, Nat.reduceAdd, Nat.reduceLeDiff, reduceCtorEq]
  (refine hK _ ?_; clear hK; clear K)
  refine d_oneg fun K hK => ?_
  simp (maxSteps := 2000000) only [vm, vr, k1, reduceIte, Nat.reduceEqDiff, reduceCtorEq]
  simp (maxSteps := 2000000) only [vm, vw, reduceIte, Nat.reduceEqDiff, reduceCtorEq]
  (apply call_v (spec77 _ _); (case hq => (simp (maxSteps := 2000000) only [vm]; rfl)); (case hvs => rfl))
  (refine hK _ ?_; clear hK; clear K)
  refine d_one fun K hK => ?_
  simp (maxSteps := 2000000) only [vm, vr, k1, k2, vw, reduceIte, Nat.reduceEqDiff, reduceCtorEq]
  (refine hK _ ?_; clear hK; clear K)
  (apply d_call (spec80 _ _); (case hf => rfl); (case hq => (simp (maxSteps := 2000000) only [vm, vr, k1, k2, reduceIte, Nat.reduceEqDiff, reduceCtorEq]; rfl)); (case hvs => rfl))
  refine d_one fun K hK => ?_
  simp (maxSteps := 2000000) only [vm, vr, q15, k1, k2, vw, reduceIte, Nat.reduceEqDiff, Nat.reduceLeDiff, reduceCtorEq]
  (refine hK _ ?_; clear hK; clear K)
  refine d_one fun K hK => ?_
  simp (maxSteps := 2000000) only [vm, vr, q15, k1, k2, vw, reduceIte, Nat.reduceEqDiff, Nat.reduceLeDiff, reduceCtorEq]
  (refine hK _ ?_; clear hK; clear K)
  refine d_one fun K hK => ?_
  simp (maxSteps := 2000000) only [vm, vr, q15, k1, k2, vw, reduceIte, Nat.reduceEqDiff, Nat.reduceLeDiff, reduceCtorEq]
  (refine hK _ ?_; clear hK; clear K)
  refine d_one fun K hK => ?_
  simp (maxSteps := 2000000) only [vm, vr, q15, k1, k2, vw, reduceIte, Nat.reduceEqDiff, Nat.reduceLeDiff, reduceCtorEq]
  (refine hK _ ?_; clear hK; clear K)
  refine d_one fun K hK => ?_
  simp (maxSteps := 2000000) only [vm, vr, q15, k1, k2, vw, reduceIte, Nat.reduceEqDiff, Nat.reduceAdd, Nat.reduceLeDiff, reduceCtorEq]
  (refine hK _ ?_; clear hK; clear K)
  refine d_one fun K hK => ?_
  simp (maxSteps := 2000000) only [vm, vr, q15, k1, k2, vw, reduceIte, Nat.reduceEqDiff, Nat.reduceAdd, Nat.reduceLeDiff, reduceCtorEq]
  (refine hK _ ?_; clear hK; clear K)
  refine d_one fun K hK => ?_
  simp (maxSteps := 2000000) only [vm, vr, k1, k2, k3, vw, reduceIte, Nat.reduceEqDiff, reduceCtorEq]
  (refine hK _ ?_; clear hK; clear K)
  refine d_one fun K hK => ?_
  simp (maxSteps := 2000000) only [vm, vr, k1, k2, vw, reduceIte, Nat.reduceEqDiff, reduceCtorEq]
  (refine hK _ ?_; clear hK; clear K)
  refine d_oneg fun K hK => ?_
  simp (maxSteps := 2000000) only [vm, vr, k1, k2, reduceIte, Nat.reduceEqDiff, reduceCtorEq]
  simp (maxSteps := 2000000) only [vm, q15, vw, reduceIte, Nat.reduceEqDiff, Nat.reduceAdd, Nat.reduceLeDiff, reduceCtorEq]
  (refine hK _ ?_; clear hK; clear K)
  refine d_oneg fun K hK => ?_
  simp (maxSteps := 2000000) only [vm, vr, k1, k2, reduceIte, Nat.reduceEqDiff, reduceCtorEq]
  simp (maxSteps := 2000000) only [vm, q15, vw, reduceIte, Nat.reduceEqDiff, Nat.reduceAdd, Nat.reduceLeDiff, reduceCtorEq]
  (refine hK _ ?_; clear hK; clear K)
  refine d_oneg fun K hK => ?_
  simp (maxSteps := 2000000) only [vm, vr, k1, k2, reduceIte, Nat.reduceEqDiff, reduceCtorEq]
  simp (maxSteps := 2000000) only [vm, q15, vw, reduceIte, Nat.reduceEqDiff, Nat.reduceAdd, Nat.reduceLeDiff, reduceCtorEq]
  (refine hK _ ?_; clear hK; clear K)
  refine d_oneg fun K hK => ?_
  simp (maxSteps := 2000000) only [vm, vr, k1, k2, reduceIte, Nat.reduceEqDiff, reduceCtorEq]
  simp (maxSteps := 2000000) only [vm, q15, vw, reduceIte, Nat.reduceEqDiff, Nat.reduceAdd, Nat.reduceLeDiff, reduceCtorEq]
  (refine hK _ ?_; clear hK; clear K)
  simp (maxSteps := 2000000) only [vm, vr, q15, k1, k2, k4, reduceIte, Nat.reduceEqDiff, Nat.reduceAdd, Nat.reduceLeDiff, reduceCtorEq]
  (apply d_call (spec80 _ _); (case hf => rfl); (case hq => (simp (maxSteps := 2000000) only [vm, reduceIte, Nat.reduceEqDiff, reduceCtorEq]; rfl)); (case hvs => rfl))
  simp (maxSteps := 2000000) only [vm, vr, q15, k5, reduceIte, Nat.reduceEqDiff, Nat.reduceAdd, Nat.reduceLeDiff, reduceCtorEq]
  (apply d_call (spec80 _ _); (case hf => rfl); (case hq => (simp (maxSteps := 2000000) only [vm, reduceIte, Nat.reduceEqDiff, reduceCtorEq]; rfl)); (case hvs => rfl))
  simp (maxSteps := 2000000) only [vm, vr, q15, reduceIte, Nat.reduceEqDiff, Nat.reduceAdd, Nat.reduceLeDiff, Nat.reduceMul, reduceCtorEq]
  refine need_by (by first | assumption | omega | (simp; done) | (simp; omega)) ?_
  (apply d_call (spec79w3 _ _ _); (case hf => rfl); (case hq => (simp (maxSteps := 2000000) only [vm, reduceIte, Nat.reduceEqDiff, reduceCtorEq]; rfl)); (case hvs => rfl))
  simp (maxSteps := 2000000) only [vm, vr, f0, reduceIte, Nat.reduceEqDiff, reduceCtorEq]
  (refine draw_ok (by decide +kernel) (hK _ ?_); clear hK; clear K)
  refine c_assoc ?_
  refine c_reg fun K hK => ?_
  simp (maxSteps := 2000000) only [vm, vr, bne_self_eq_false, reduceIte, Nat.reduceEqDiff, reduceCtorEq]
  (refine hK _ ?_; clear hK; clear K)
  refine c_if _ rfl (fun hb1 => ?_) (fun hb1 => ?_) <;> (have hp1 := hb1; try simp only [] at hp1)
  cases hb1
  refine c_skip ?_
  refine c_assoc ?_
  refine c_reg fun K hK => ?_
  simp (maxSteps := 2000000) only [vm, vr, q15, reduceIte, Nat.reduceEqDiff, Nat.reduceAdd, Nat.reduceLeDiff, reduceCtorEq]
  (refine hK _ ?_; clear hK; clear K)
  refine c_block ?_
  refine vcode_loop (fun i : Nat => [(2, L.p (V.i IntKind.i64 0)), (3, L.p (V.i IntKind.i64 0)), (4, L.p (V.fn 77 [] [])), (48, L.p (V.sl (List.map ev3 es))), (49, L.p (V.i IntKind.i64 ↑es.length)), (50, L.p (nn i))]) (fun _ => []) (fun i => i ≤ es.length ∧ lawV c0 c1 s0 s1 es = evAt es i (es.length - i)) (fun i => es.length - i) 0 ⟨Nat.zero_le _, hs⟩ ?_ ?_
  · simp (maxSteps := 2000000) only [vm, vmk, reduceIte, Nat.reduceEqDiff, reduceCtorEq]
  · rintro i ⟨hi, hq⟩
    rcases Nat.lt_or_ge i es.length with hil | hil
    · obtain ⟨e, he⟩ : ∃ e, e = es.getD i default := ⟨_, rfl⟩
      have he' := he.symm
      cases g1 : withinV e.1 (-100) 100 with
      | true =>
        have hE : firstV [if rngL e.2.1 e.2.2 = true then 0 else 2, if decide (e.2.1 ≤ e.2.2) = true then 0 else 9] = evE e := by unfold evE; rw [g1]; rfl
        refine c_reg fun K hK => ?_
        simp (maxSteps := 2000000) only [vm, reduceIte, Nat.reduceEqDiff]
        (refine hK _ ?_; clear hK; clear K)
        refine c_if _ rfl (fun hb2 => ?_) (fun hb2 => ?_) <;> (have hp2 := hb2; try simp only [decide_eq_true_eq, decide_eq_false_iff_not, Int.not_lt] at hp2)
        refine c_skip ?_
        refine c_block ?_
        refine c_reg fun K hK => ?_
        simp (maxSteps := 2000000) only [vm, vr, q15, hb2, reduceIte, Nat.reduceEqDiff, Nat.reduceAdd, Nat.reduceLeDiff, reduceCtorEq]
        (refine atI_map default (by first | assumption | omega | (simp; done) | (simp; omega)) (by first | assumption | omega | (simp; done) | (simp; omega)) ?_; simp (maxSteps := 2000000) only [vm, vr, q15, he', Nat.reduceAdd])
        refine need_by (by first | assumption | omega | (simp; done) | (simp; omega)) ?_
        (refine hK _ ?_; clear hK; clear K)
        refine c_draw fun K hK => ?_
        refine d_one fun K hK => ?_
        simp (maxSteps := 2000000) only [vm, q15, vw, reduceIte, Nat.reduceEqDiff, Nat.reduceLeDiff, reduceCtorEq]
        (refine hK _ ?_; clear hK; clear K)
        refine d_one fun K hK => ?_
        simp (maxSteps := 2000000) only [vm, vr, q15, vw, reduceIte, Nat.reduceEqDiff, Nat.reduceLeDiff, reduceCtorEq]
        (refine hK _ ?_; clear hK; clear K)
        (apply d_call (spec78 _ _ ?s9001x1 ?s9001x2); (case hf => rfl); (case hq => (simp (maxSteps := 2000000) only [vm, vr, reduceIte, Nat.reduceEqDiff]; rfl)); (case hvs => rfl); (case s9001x1 => first | assumption | omega | (simp; done) | (simp; omega)); (case s9001x2 => first | assumption | omega | (simp; done) | (simp; omega)))
        refine d_one fun K hK => ?_
        simp (maxSteps := 2000000) only [vm, vr, g1, vw, reduceIte, Nat.reduceEqDiff]
        (refine hK _ ?_; clear hK; clear K)
        refine d_oneg fun K hK => ?_
        simp (maxSteps := 2000000) only [vm, vr, g1, reduceIte, Nat.reduceEqDiff]
        simp (maxSteps := 2000000) only [vm, vw, reduceIte, Nat.reduceEqDiff]
        (refine hK _ ?_; clear hK; clear K)
        simp (maxSteps := 2000000) only [vm, vr, q15, g1, reduceIte, Nat.reduceEqDiff, Nat.reduceAdd, Nat.reduceLeDiff, reduceCtorEq]
        (apply d_call (spec77 _ _); (case hf => rfl); (case hq => (simp (maxSteps := 2000000) only [vm, reduceIte, Nat.reduceEqDiff]; rfl)); (case hvs => rfl))
        simp (maxSteps := 2000000) only [vm, vr, reduceIte, Nat.reduceEqDiff]
        (apply d_call (spec80 _ _); (case hf => rfl); (case hq => (simp (maxSteps := 2000000) only [vm, reduceIte, Nat.reduceEqDiff]; rfl)); (case hvs => rfl))
        simp (maxSteps := 2000000) only [vm, vr, q15, reduceIte, Nat.reduceEqDiff, Nat.reduceAdd, Nat.reduceLeDiff, reduceCtorEq]
        (apply d_call (spec80 _ _); (case hf => rfl); (case hq => (simp (maxSteps := 2000000) only [vm, reduceIte, Nat.reduceEqDiff]; rfl)); (case hvs => rfl))
        simp (maxSteps := 2000000) only [vm, vr, q15, reduceIte, Nat.reduceEqDiff, Nat.reduceAdd, Nat.reduceLeDiff, Nat.reduceMul, reduceCtorEq]
        refine need_by (by first | assumption | omega | (simp; done) | (simp; omega)) ?_
        (apply d_call (spec79w2 _ _); (case hf => rfl); (case hq => (simp (maxSteps := 2000000) only [vm, reduceIte, Nat.reduceEqDiff, reduceCtorEq]; rfl)); (case hvs => rfl))
        simp (maxSteps := 2000000) only [vm, vr, hE, reduceIte, Nat.reduceEqDiff]
        (refine draw_ok (by decide +kernel) (hK _ ?_); clear hK; clear K)
        refine c_reg fun K hK => ?_
        simp (maxSteps := 2000000) only [vm, vr, reduceIte, Nat.reduceEqDiff]
        (refine hK _ ?_; clear hK; clear K)
        refine vcode_if _ rfl (fun hb3 => ?_) (fun hb3 => ?_) <;> (have hp3 := hb3; try simp only [bne_iff_ne, bne_eq_false_iff_eq] at hp3)
        refine c_reg fun K hK => ?_
        simp (maxSteps := 2000000) only [vm, vr, hb3, reduceIte, Nat.reduceEqDiff]
        (refine hK _ ?_; clear hK; clear K)
        refine c_ret1 ?_
        simp only [thenV_r, blockV_r]
        simp (maxSteps := 2000000) only [vm, vr, reduceIte, Nat.reduceEqDiff]
        rotate_left
        refine c_skip1 ?_
        simp only [thenV_n, blockV_n]
        refine c_reg1 fun K hK => ?_
        simp (maxSteps := 2000000) only [vm, vr, hb3, reduceIte, Nat.reduceEqDiff]
        (simp (disch := omega) only [wr64]; try simp (maxSteps := 2000000) only [vm, vr, vp, q15, he', g1, hE, hb1, hb2, hb3, Int.reduceBNe, Int.reduceBEq, Int.reduceLT, Int.reduceLE, Int.reduceGT, Int.reduceGE, decide_true, decide_false, bne_self_eq_false, beq_self_eq_true, reduceIte, Nat.reduceEqDiff, Nat.reduceAdd, Nat.reduceLeDiff, Nat.reduceMul, Nat.reduceLT, reduceCtorEq])
        (refine hK _ ?_; clear hK; clear K)
        simp only [thenV_n]
        rotate_left
        refine c_exit ?_
        simp only [thenV_n, thenV_e, blockV_e, reduceIte]
        refine c_reg fun K hK => ?_
        simp (maxSteps := 2000000) only [vm, hb2]
        (refine hK _ ?_; clear hK; clear K)
        refine c_ret1 ?_
        simp (maxSteps := 2000000) only [vm, vr, reduceIte, Nat.reduceEqDiff]
        rotate_left
        · rw [ev_ret hq hil (by rw [he']; omega), he']
        · refine ⟨i + 1, ?_, ⟨by omega, ev_go hq hil (by rw [he']; omega)⟩, by omega⟩
          (simp (maxSteps := 2000000) only [vm, vmk, reduceIte, Nat.reduceEqDiff, reduceCtorEq]; try simp (disch := omega) only [wr64]; try omega)
          rfl
        · omega
      | false =>
        have hE : firstV [2, if decide (e.2.1 ≤ e.2.2) = true then 0 else 9] = evE e := by unfold evE; rw [g1]; rfl
        have hn : (evE e != 0) = true := by rw [← hE]; rfl
        refine c_reg fun K hK => ?_
        simp (maxSteps := 2000000) only [vm, reduceIte, Nat.reduceEqDiff]
        (refine hK _ ?_; clear hK; clear K)
        refine c_if _ rfl (fun hb2 => ?_) (fun hb2 => ?_) <;> (have hp2 := hb2; try simp only [decide_eq_true_eq, decide_eq_false_iff_not, Int.not_lt] at hp2)
        refine c_skip ?_
        refine c_block ?_
        refine c_reg fun K hK => ?_
        simp (maxSteps := 2000000) only [vm, vr, q15, hb2, reduceIte, Nat.reduceEqDiff, Nat.reduceAdd, Nat.reduceLeDiff, reduceCtorEq]
        (refine atI_map default (by first | assumption | omega | (simp; done) | (simp; omega)) (by first | assumption | omega | (simp; done) | (simp; omega)) ?_; simp (maxSteps := 2000000) only [vm, vr, q15, he', Nat.reduceAdd])
        refine need_by (by first | assumption | omega | (simp; done) | (simp; omega)) ?_
        (refine hK _ ?_; clear hK; clear K)
        refine c_draw fun K hK => ?_
        refine d_one fun K hK => ?_
        simp (maxSteps := 2000000) only [vm, q15, vw, reduceIte, Nat.reduceEqDiff, Nat.reduceLeDiff, reduceCtorEq]
        (refine hK _ ?_; clear hK; clear K)
        refine d_one fun K hK => ?_
        simp (maxSteps := 2000000) only [vm, vr, q15, vw, reduceIte, Nat.reduceEqDiff, Nat.reduceLeDiff, reduceCtorEq]
        (refine hK _ ?_; clear hK; clear K)
        (apply d_call (spec78 _ _ ?s9801x1 ?s9801x2); (case hf => rfl); (case hq => (simp (maxSteps := 2000000) only [vm, vr, reduceIte, Nat.reduceEqDiff]; rfl)); (case hvs => rfl); (case s9801x1 => first | assumption | omega | (simp; done) | (simp; omega)); (case s9801x2 => first | assumption | omega | (simp; done) | (simp; omega)))
        refine d_one fun K hK => ?_
        simp (maxSteps := 2000000) only [vm, vr, g1, vw, reduceIte, Nat.reduceEqDiff]
        (refine hK _ ?_; clear hK; clear K)
        refine d_oneg fun K hK => ?_
        simp (maxSteps := 2000000) only [vm, vr, g1, reduceIte, Nat.reduceEqDiff]
        (refine hK _ ?_; clear hK; clear K)
        simp (maxSteps := 2000000) only [vm, vr, g1, reduceIte, Nat.reduceEqDiff]
        (apply d_call (spec80 _ _); (case hf => rfl); (case hq => (simp (maxSteps := 2000000) only [vm, reduceIte, Nat.reduceEqDiff]; rfl)); (case hvs => rfl))
        simp (maxSteps := 2000000) only [vm, vr, q15, reduceIte, Nat.reduceEqDiff, Nat.reduceAdd, Nat.reduceLeDiff, reduceCtorEq]
        (apply d_call (spec80 _ _); (case hf => rfl); (case hq => (simp (maxSteps := 2000000) only [vm, reduceIte, Nat.reduceEqDiff]; rfl)); (case hvs => rfl))
        simp (maxSteps := 2000000) only [vm, vr, q15, reduceIte, Nat.reduceEqDiff, Nat.reduceAdd, Nat.reduceLeDiff, Nat.reduceMul, reduceCtorEq]
        refine need_by (by first | assumption | omega | (simp; done) | (simp; omega)) ?_
        (apply d_call (spec79w2 _ _); (case hf => rfl); (case hq => (simp (maxSteps := 2000000) only [vm, reduceIte, Nat.reduceEqDiff, reduceCtorEq]; rfl)); (case hvs => rfl))
        simp (maxSteps := 2000000) only [vm, vr, hE, reduceIte, Nat.reduceEqDiff]
        (refine draw_ok (by decide +kernel) (hK _ ?_); clear hK; clear K)
        refine c_reg fun K hK => ?_
        simp (maxSteps := 2000000) only [vm, vr, hn, reduceIte, Nat.reduceEqDiff]
        (refine hK _ ?_; clear hK; clear K)
        refine vcode_if _ rfl (fun hb3 => ?_) (fun hb3 => ?_) <;> (have hp3 := hb3; try simp only [] at hp3)
        refine c_reg fun K hK => ?_
        simp (maxSteps := 2000000) only [vm, vr, reduceIte, Nat.reduceEqDiff]
        (refine hK _ ?_; clear hK; clear K)
        refine c_ret1 ?_
        simp only [thenV_r, blockV_r]
        simp (maxSteps := 2000000) only [vm, vr, reduceIte, Nat.reduceEqDiff]
        rotate_left
        cases hb3
        refine c_exit ?_
        simp only [thenV_n, thenV_e, blockV_e, reduceIte]
        refine c_reg fun K hK => ?_
        simp (maxSteps := 2000000) only [vm, hb2]
        (refine hK _ ?_; clear hK; clear K)
        refine c_ret1 ?_
        simp (maxSteps := 2000000) only [vm, vr, reduceIte, Nat.reduceEqDiff]
        rotate_left
        · rw [ev_ret hq hil (by rw [he']; simpa using hn), he']
        · omega
    · have kl : decide ((i : Int) < (es.length : Int)) = false := by simp; omega
      refine c_reg fun K hK => ?_
      simp (maxSteps := 2000000) only [vm, kl, reduceIte, Nat.reduceEqDiff]
      (refine hK _ ?_; clear hK; clear K)
      refine c_if _ rfl (fun hb2 => ?_) (fun hb2 => ?_) <;> (have hp2 := hb2; try simp only [] at hp2)
      cases hb2
      refine c_exit ?_
      simp only [thenV_n, thenV_e, blockV_e, reduceIte]
      refine c_reg fun K hK => ?_
      simp (maxSteps := 2000000) only [vm]
      (refine hK _ ?_; clear hK; clear K)
      refine c_ret1 ?_
      simp (maxSteps := 2000000) only [vm, vr, reduceIte, Nat.reduceEqDiff]
      rw [ev_end hq hil]; rfl
theorem spec15 (c0 c1 s0 s1 : Int) (es : List (Int × Int × Int)) (hl : es.length < 1000000) : Sp0 15 [lawL c0 c1 s0 s1 es] (R.v2 (nn (lawV c0 c1 s0 s1 es).1) (nn (lawV c0 c1 s0 s1 es).2)) := by
  by_cases h0 : lawHead c0 c1 s0 s1 es.length = 0
  · exact spec15w1 c0 c1 s0 s1 es hl h0
  · exact spec15w2 c0 c1 s0 s1 es hl h0
theorem spec19w2 (c0 c1 s0 s1 : Int) (es : List (Int × Int × Int)) (hl : es.length < 1000000) (h0 : lawHead c0 c1 s0 s1 es.length ≠ 0) : Sp0 19 [lawL c0 c1 s0 s1 es] (R.v2 (nn (lawV c0 c1 s0 s1 es).1) (nn (lawV c0 c1 s0 s1 es).2)) := by
  unfold lawV
  rw [if_pos h0]
  have hH : lawHead c0 c1 s0 s1 es.length = firstV [if rngL c0 c1 && rngL s0 s1 then 0 else 2, if decide (c0 ≤ c1) && decide (s0 ≤ s1) then 0 else 9, if decide ((es.length : Int) ≤ 10) then 0 else 8] := rfl
  simp only [firstV_cons, firstV_nil] at hH
  cases k1 : rngL c0 c1 with
  | false =>
    have hv : lawHead c0 c1 s0 s1 es.length = 2 := by rw [hH, k1]; simp
    rw [hv]
    refine spec_of mixed (fun _ _ _ h => h) Try.func19 (by decide +kernel) rfl (rs := _) rfl rfl (by simp [Try.f19]) (by decide +kernel) ?_; simp only [argsG]
    refine c_reg fun K hK => ?_
    simp (maxSteps := 2000000) only [vm, vr, reduceIte, Nat.reduceAdd]
    refine need_by (by first | assumption | omega | (simp; done) | (simp; omega)) ?_
    (refine hK _ ?_; clear hK; clear K)
    refine c_assoc ?_
    refine c_reg fun K hK => ?_
    simp (maxSteps := 2000000) only [vm, vr, q19, reduceIte, Nat.reduceEqDiff, Nat.reduceAdd, Nat.reduceLeDiff, reduceCtorEq]
    (apply s_call (spec83 _ _); (case hf => rfl); (case hq => (simp (maxSteps := 2000000) only [vm, reduceIte, Nat.reduceEqDiff, reduceCtorEq]; rfl)); (case hvs => rfl))
    simp (maxSteps := 2000000) only [vm, vr, k1, reduceIte, Nat.reduceEqDiff, reduceCtorEq]
    (refine hK _ ?_; clear hK; clear K)
    refine c_if _ rfl (fun hb1 => ?_) (fun hb1 => ?_) <;> (have hp1 := hb1; try simp only [] at hp1)
    refine c_assoc ?_
    refine c_reg fun K hK => ?_
    simp (maxSteps := 2000000) only [vm, vr]
    (refine hK _ ?_; clear hK; clear K)
    refine c_ret ?_
    simp (maxSteps := 2000000) only [vm, vr, vp, reduceIte, Nat.reduceEqDiff, reduceCtorEq]
    cases hb1
  | true =>
    cases k2 : rngL s0 s1 with
    | false =>
      have hv : lawHead c0 c1 s0 s1 es.length = 2 := by rw [hH, k1, k2]; simp
      rw [hv]
      refine spec_of mixed (fun _ _ _ h => h) Try.func19 (by decide +kernel) rfl (rs := _) rfl rfl (by simp [Try.f19]) (by decide +kernel) ?_; simp only [argsG]
      refine c_reg fun K hK => ?_
      simp (maxSteps := 2000000) only [vm, vr, reduceIte, Nat.reduceAdd]
      refine need_by (by first | assumption | omega | (simp; done) | (simp; omega)) ?_
      (refine hK _ ?_; clear hK; clear K)
      refine c_assoc ?_
      refine c_reg fun K hK => ?_
      simp (maxSteps := 2000000) only [vm, vr, q19, reduceIte, Nat.reduceEqDiff, Nat.reduceAdd, Nat.reduceLeDiff, reduceCtorEq]
      (apply s_call (spec83 _ _); (case hf => rfl); (case hq => (simp (maxSteps := 2000000) only [vm, reduceIte, Nat.reduceEqDiff, reduceCtorEq]; rfl)); (case hvs => rfl))
      simp (maxSteps := 2000000) only [vm, vr, q19, k1, reduceIte, Nat.reduceEqDiff, Nat.reduceAdd, Nat.reduceLeDiff, reduceCtorEq]
      (apply s_call (spec83 _ _); (case hf => rfl); (case hq => (simp (maxSteps := 2000000) only [vm, reduceIte, Nat.reduceEqDiff, reduceCtorEq]; rfl)); (case hvs => rfl))
      simp (maxSteps := 2000000) only [vm, vr, k2, reduceIte, Nat.reduceEqDiff, reduceCtorEq]
      (refine hK _ ?_; clear hK; clear K)
      refine c_if _ rfl (fun hb1 => ?_) (fun hb1 => ?_) <;> (have hp1 := hb1; try simp only [] at hp1)
      refine c_assoc ?_
      refine c_reg fun K hK => ?_
      simp (maxSteps := 2000000) only [vm, vr]
      (refine hK _ ?_; clear hK; clear K)
      refine c_ret ?_
      simp (maxSteps := 2000000) only [vm, vr, vp, reduceIte, Nat.reduceEqDiff, reduceCtorEq]
      cases hb1
    | true =>
      rcases Int.lt_or_le c1 c0 with k3 | k3
      · have hv : lawHead c0 c1 s0 s1 es.length = 9 := by rw [hH, k1, k2, show decide (c0 ≤ c1) = false by simp; omega]; simp
        have k3' : decide (c0 > c1) = true := by simp; omega
        rw [hv]
        refine spec_of mixed (fun _ _ _ h => h) Try.func19 (by decide +kernel) rfl (rs := _) rfl rfl (by simp [Try.f19]) (by decide +kernel) ?_; simp only [argsG]
        refine c_reg fun K hK => ?_
        simp (maxSteps := 2000000) only [vm, vr, reduceIte, Nat.reduceAdd]
        refine need_by (by first | assumption | omega | (simp; done) | (simp; omega)) ?_
        (refine hK _ ?_; clear hK; clear K)
        refine c_assoc ?_
        refine c_reg fun K hK => ?_
        simp (maxSteps := 2000000) only [vm, vr, q19, reduceIte, Nat.reduceEqDiff, Nat.reduceAdd, Nat.reduceLeDiff, reduceCtorEq]
        (apply s_call (spec83 _ _); (case hf => rfl); (case hq => (simp (maxSteps := 2000000) only [vm, reduceIte, Nat.reduceEqDiff, reduceCtorEq]; rfl)); (case hvs => rfl))
        simp (maxSteps := 2000000) only [vm, vr, q19, k1, reduceIte, Nat.reduceEqDiff, Nat.reduceAdd, Nat.reduceLeDiff, reduceCtorEq]
        (apply s_call (spec83 _ _); (case hf => rfl); (case hq => (simp (maxSteps := 2000000) only [vm, reduceIte, Nat.reduceEqDiff, reduceCtorEq]; rfl)); (case hvs => rfl))
        simp (maxSteps := 2000000) only [vm, vr, k2, reduceIte, Nat.reduceEqDiff, reduceCtorEq]
        (refine hK _ ?_; clear hK; clear K)
        refine c_if _ rfl (fun hb1 => ?_) (fun hb1 => ?_) <;> (have hp1 := hb1; try simp only [] at hp1)
        cases hb1
        refine c_skip ?_
        refine c_assoc ?_
        refine c_reg fun K hK => ?_
        simp (maxSteps := 2000000) only [vm, vr, q19, k3', reduceIte, Nat.reduceEqDiff, Nat.reduceAdd, Nat.reduceLeDiff, reduceCtorEq]
        (refine hK _ ?_; clear hK; clear K)
        refine c_if _ rfl (fun hb2 => ?_) (fun hb2 => ?_) <;> (have hp2 := hb2; try simp only [] at hp2)
        refine c_assoc ?_
        refine c_reg fun K hK => ?_
        simp (maxSteps := 2000000) only [vm, vr]
        (refine hK _ ?_; clear hK; clear K)
        refine c_ret ?_
        simp (maxSteps := 2000000) only [vm, vr, vp, reduceIte, Nat.reduceEqDiff, reduceCtorEq]
        cases hb2
      · have k3' : decide (c0 > c1) = false := by simp; omega
        rcases Int.lt_or_le s1 s0 with k4 | k4
        · have hv : lawHead c0 c1 s0 s1 es.length = 9 := by rw [hH, k1, k2, show decide (s0 ≤ s1) = false by simp; omega, Bool.and_false]; simp
          have k4' : decide (s0 > s1) = true := by simp; omega
          rw [hv]
          refine spec_of mixed (fun _ _ _ h => h) Try.func19 (by decide +kernel) rfl (rs := _) rfl rfl (by simp [Try.f19]) (by decide +kernel) ?_; simp only [argsG]
          refine c_reg fun K hK => ?_
          simp (maxSteps := 2000000) only [vm, vr, reduceIte, Nat.reduceAdd]
          refine need_by (by first | assumption | omega | (simp; done) | (simp; omega)) ?_
          (refine hK _ ?_; clear hK; clear K)
          refine c_assoc ?_
          refine c_reg fun K hK => ?_
          simp (maxSteps := 2000000) only [vm, vr, q19, reduceIte, Nat.reduceEqDiff, Nat.reduceAdd, Nat.reduceLeDiff, reduceCtorEq]
          (apply s_call (spec83 _ _); (case hf => rfl); (case hq => (simp (maxSteps := 2000000) only [vm, reduceIte, Nat.reduceEqDiff, reduceCtorEq]; rfl)); (case hvs => rfl))
          simp (maxSteps := 2000000) only [vm, vr, q19, k1, reduceIte, Nat.reduceEqDiff, Nat.reduceAdd, Nat.reduceLeDiff, reduceCtorEq]
          (apply s_call (spec83 _ _); (case hf => rfl); (case hq => (simp (maxSteps := 2000000) only [vm, reduceIte, Nat.reduceEqDiff, reduceCtorEq]; rfl)); (case hvs => rfl))
          simp (maxSteps := 2000000) only [vm, vr, k2, reduceIte, Nat.reduceEqDiff, reduceCtorEq]
          (refine hK _ ?_; clear hK; clear K)
          refine c_if _ rfl (fun hb1 => ?_) (fun hb1 => ?_) <;> (have hp1 := hb1; try simp only [] at hp1)
          cases hb1
          refine c_skip ?_
          refine c_assoc ?_
          refine c_reg fun K hK => ?_
          simp (maxSteps := 2000000) only [vm, vr, q19, k3', k4', reduceIte, Nat.reduceEqDiff, Nat.reduceAdd, Nat.reduceLeDiff, reduceCtorEq]
          (refine hK _ ?_; clear hK; clear K)
          refine c_if _ rfl (fun hb2 => ?_) (fun hb2 => ?_) <;> (have hp2 := hb2; try simp only [] at hp2)
          refine c_assoc ?_
          refine c_reg fun K hK => ?_
          simp (maxSteps := 2000000) only [vm, vr]
          (refine hK _ ?_; clear hK; clear K)
          refine c_ret ?_
          simp (maxSteps := 2000000) only [vm, vr, vp, reduceIte, Nat.reduceEqDiff, reduceCtorEq]
          cases hb2
        · have k4' : decide (s0 > s1) = false := by simp; omega
          rcases Nat.lt_or_ge 10 es.length with k5 | k5
          · have hv : lawHead c0 c1 s0 s1 es.length = 8 := by rw [hH, k1, k2, show decide (c0 ≤ c1) = true by simp; omega, show decide (s0 ≤ s1) = true by simp; omega, show decide ((es.length : Int) ≤ 10) = false by simp; omega]; simp
            have k5' : decide ((es.length : Int) > 10) = true := by simp; omega
            rw [hv]
            refine spec_of mixed (fun _ _ _ h => h) Try.func19 (by decide +kernel) rfl (rs := _) rfl rfl (by simp [Try.f19]) (by decide +kernel) ?_; simp only [argsG]
            refine c_reg fun K hK => ?_
            simp (maxSteps := 2000000) only [vm, vr, reduceIte, Nat.reduceAdd]
            refine need_by (by first | assumption | omega | (simp; done) | (simp; omega)) ?_
            (refine hK _ ?_; clear hK; clear K)
            refine c_assoc ?_
            refine c_reg fun K hK => ?_
            simp (maxSteps := 2000000) only [vm, vr, q19, reduceIte, Nat.reduceEqDiff, Nat.reduceAdd, Nat.reduceLeDiff, reduceCtorEq]
            (apply s_call (spec83 _ _); (case hf => rfl); (case hq => (simp (maxSteps := 2000000) only [vm, reduceIte, Nat.reduceEqDiff, reduceCtorEq]; rfl)); (case hvs => rfl))
            simp (maxSteps := 2000000) only [vm, vr, q19, k1, reduceIte, Nat.reduceEqDiff, Nat.reduceAdd, Nat.reduceLeDiff, reduceCtorEq]
            (apply s_call (spec83 _ _); (case hf => rfl); (case hq => (simp (maxSteps := 2000000) only [vm, reduceIte, Nat.reduceEqDiff, reduceCtorEq]; rfl)); (case hvs => rfl))
            simp (maxSteps := 2000000) only [vm, vr, k2, reduceIte, Nat.reduceEqDiff, reduceCtorEq]
            (refine hK _ ?_; clear hK; clear K)
            refine c_if _ rfl (fun hb1 => ?_) (fun hb1 => ?_) <;> (have hp1 := hb1; try simp only [] at hp1)
            cases hb1
            refine c_skip ?_
            refine c_assoc ?_
            refine c_reg fun K hK => ?_
            simp (maxSteps := 2000000) only [vm, vr, q19, k3', k4', reduceIte, Nat.reduceEqDiff, Nat.reduceAdd, Nat.reduceLeDiff, reduceCtorEq]
            (refine hK _ ?_; clear hK; clear K)
            refine c_if _ rfl (fun hb2 => ?_) (fun hb2 => ?_) <;> (have hp2 := hb2; try simp only [] at hp2)
            cases hb2
            refine c_skip ?_
            refine c_assoc ?_
            refine c_reg fun K hK => ?_
            simp (maxSteps := 2000000) only [vm, vr, q19, k5', reduceIte, Nat.reduceEqDiff, Nat.reduceAdd, Nat.reduceLeDiff, reduceCtorEq]
            (refine hK _ ?_; clear hK; clear K)
            refine c_if _ rfl (fun hb3 => ?_) (fun hb3 => ?_) <;> (have hp3 := hb3; try simp only [] at hp3)
            refine c_assoc ?_
            refine c_reg fun K hK => ?_
            simp (maxSteps := 2000000) only [vm, vr]
            (refine hK _ ?_; clear hK; clear K)
            refine c_ret ?_
            simp (maxSteps := 2000000) only [vm, vr, vp, reduceIte, Nat.reduceEqDiff, reduceCtorEq]
            cases hb3
          · exact absurd (by rw [hH, k1, k2, show decide (c0 ≤ c1) = true by simp; omega, show decide (s0 ≤ s1) = true by simp; omega, show decide ((es.length : Int) ≤ 10) = true by simp; omega]; simp) h0
theorem spec19w1 (c0 c1 s0 s1 : Int) (es : List (Int × Int × Int)) (hl : es.length < 1000000) (h0 : lawHead c0 c1 s0 s1 es.length = 0) : Sp0 19 [lawL c0 c1 s0 s1 es] (R.v2 (nn (lawV c0 c1 s0 s1 es).1) (nn (lawV c0 c1 s0 s1 es).2)) := by
  obtain ⟨k1, k2, k3, k4, k5⟩ := head_zero h0
  have hs : lawV c0 c1 s0 s1 es = evAt es 0 (es.length - 0) := by unfold lawV; rw [if_neg (by rw [h0]; simp)]; rfl
  have k3' : decide (c0 > c1) = false := by simp at k3 ⊢; omega
  have k4' : decide (s0 > s1) = false := by simp at k4 ⊢; omega
  have k5' : decide ((es.length : Int) > 10) = false := by simp at k5 ⊢; omega
  refine spec_of mixed (fun _ _ _ h => h) Try.func19 (by decide +kernel) rfl (rs := _) rfl rfl (by simp [Try.f19]) (by decide +kernel) ?_; simp only [argsG]
  refine c_reg fun K hK => ?_
  simp (maxSteps := 2000000) only [vm, vr, reduceIte, Nat.reduceAdd]
  refine need_by (by first | assumption | omega | (simp; done) | (simp; omega)) ?_
  (refine hK _ ?_; clear hK; clear K)
  refine c_assoc ?_
  refine c_reg fun K hK => ?_
  simp (maxSteps := 2000000) only [vm, vr, q19, reduceIte, Nat.reduceEqDiff, Nat.reduceAdd, Nat.reduceLeDiff, reduceCtorEq]
  (apply s_call (spec83 _ _); (case hf => rfl); (case hq => (simp (maxSteps := 2000000) only [vm, reduceIte, Nat.reduceEqDiff, reduceCtorEq]; rfl)); (case hvs => rfl))
  simp (maxSteps := 2000000) only [vm, vr, q19, k1, reduceIte, Nat.reduceEqDiff, Nat.reduceAdd, Nat.reduceLeDiff, reduceCtorEq]
  (apply s_call (spec83 _ _); (case hf => rfl); (case hq => (simp (maxSteps := 2000000) only [vm, reduceIte, Nat.reduceEqDiff, reduceCtorEq]; rfl)); (case hvs => rfl))
  simp (maxSteps := 2000000) only [vm, vr, k2, reduceIte, Nat.reduceEqDiff, reduceCtorEq]
  (refine hK _ ?_; clear hK; clear K)
  refine c_if _ rfl (fun hb1 => ?_) (fun hb1 => ?_) <;> (have hp1 := hb1; try simp only [] at hp1)
  cases hb1
  refine c_skip ?_
  refine c_assoc ?_
  refine c_reg fun K hK => ?_
  simp (maxSteps := 2000000) only [vm, vr, q19, k3', k4', reduceIte, Nat.reduceEqDiff, Nat.reduceAdd, Nat.reduceLeDiff, reduceCtorEq]
  (refine hK _ ?_; clear hK; clear K)
  refine c_if _ rfl (fun hb2 => ?_) (fun hb2 => ?_) <;> (have hp2 := hb2; try simp only [] at hp2)
  cases hb2
  refine c_skip ?_
  refine c_assoc ?_
  refine c_reg fun K hK => ?_
  simp (maxSteps := 2000000) only [vm, vr, q19, k5', reduceIte, Nat.reduceEqDiff, Nat.reduceAdd, Nat.reduceLeDiff, reduceCtorEq]
  (refine hK _ ?_; clear hK; clear K)
  refine c_if _ rfl (fun hb3 => ?_) (fun hb3 => ?_) <;> (have hp3 := hb3; try simp only [] at hp3)
  cases hb3
  refine c_skip ?_
  refine c_assoc ?_
  refine c_reg fun K hK => ?_
  simp (maxSteps := 2000000) only [vm, vr]
  (refine hK _ ?_; clear hK; clear K)
  refine c_block ?_
  refine vcode_loop (fun i : Nat => [(1, L.own 1 0), (2, L.p (V.i IntKind.i64 0)), (3, L.p (V.i IntKind.i64 0)), (4, L.p (nn i))]) (fun _ => [(Key.b 1, M.box 5), (Key.c 1 0, M.cell (L.p (nn c0))), (Key.c 1 1, M.cell (L.p (nn c1))), (Key.c 1 2, M.cell (L.p (nn s0))), (Key.c 1 3, M.cell (L.p (nn s1))), (Key.c 1 4, M.cell (L.p (V.sl (List.map ev3 es))))]) (fun i => i ≤ es.length ∧ lawV c0 c1 s0 s1 es = evAt es i (es.length - i)) (fun i => es.length - i) 0 ⟨Nat.zero_le _, hs⟩ ?_ ?_
  · simp (maxSteps := 2000000) only [vm, vmk, reduceIte, Nat.reduceEqDiff, Nat.reduceAdd, Nat.reduceLT, reduceCtorEq]
  · rintro i ⟨hi, hq⟩
    rcases Nat.lt_or_ge i es.length with hil | hil
    · obtain ⟨e, he⟩ : ∃ e, e = es.getD i default := ⟨_, rfl⟩
      have he' := he.symm
      have hE : evE e = firstV [if withinV e.1 (-100) 100 && rngL e.2.1 e.2.2 then 0 else 2, if decide (e.2.1 ≤ e.2.2) then 0 else 9] := rfl
      simp only [firstV_cons, firstV_nil] at hE
      have kl : decide ((i : Int) < (es.length : Int)) = true := by simp; omega
      cases g1 : withinV e.1 (-100) 100 with
      | false =>
        have hv : evE e = 2 := by rw [hE, g1]; simp
        refine c_assoc ?_
        refine c_reg fun K hK => ?_
        simp (maxSteps := 2000000) only [vm, vr, q19, kl, reduceIte, Nat.reduceEqDiff, Nat.reduceAdd, Nat.reduceLeDiff, reduceCtorEq]
        (refine hK _ ?_; clear hK; clear K)
        refine c_if _ rfl (fun hb4 => ?_) (fun hb4 => ?_) <;> (have hp4 := hb4; try simp only [] at hp4)
        refine c_skip ?_
        refine c_block ?_
        refine c_reg fun K hK => ?_
        simp (maxSteps := 2000000) only [vm, vr, q19, reduceIte, Nat.reduceEqDiff, Nat.reduceAdd, Nat.reduceLeDiff, reduceCtorEq]
        (refine atI_map default (by first | assumption | omega | (simp; done) | (simp; omega)) (by first | assumption | omega | (simp; done) | (simp; omega)) ?_; simp (maxSteps := 2000000) only [vm, vr, q19, he', reduceIte, Nat.reduceEqDiff, Nat.reduceAdd, reduceCtorEq])
        refine need_by (by first | assumption | omega | (simp; done) | (simp; omega)) ?_
        (refine hK _ ?_; clear hK; clear K)
        refine c_assoc ?_
        refine c_reg fun K hK => ?_
        simp (maxSteps := 2000000) only [vm, vr, q19, reduceIte, Nat.reduceEqDiff, Nat.reduceLeDiff, reduceCtorEq]
        (apply s_call (spec21 _); (case hf => rfl); (case hq => (simp (maxSteps := 2000000) only [vm, reduceIte, Nat.reduceEqDiff]; rfl)); (case hvs => rfl))
        simp (maxSteps := 2000000) only [vm, vr, g1, reduceIte, Nat.reduceEqDiff]
        (refine hK _ ?_; clear hK; clear K)
        refine c_if _ rfl (fun hb5 => ?_) (fun hb5 => ?_) <;> (have hp5 := hb5; try simp only [] at hp5)
        refine c_assoc ?_
        refine c_reg fun K hK => ?_
        simp (maxSteps := 2000000) only [vm, vr, reduceIte, Nat.reduceEqDiff]
        (refine hK _ ?_; clear hK; clear K)
        refine c_ret ?_
        simp only [thenV_r, blockV_r]
        simp (maxSteps := 2000000) only [vm, vr, reduceIte, Nat.reduceEqDiff]
        rotate_left
        cases hb5
        cases hb4
        rw [ev_ret hq hil (by rw [he', hv]; simp), he', hv]
      | true =>
        cases g2 : rngL e.2.1 e.2.2 with
        | false =>
          have hv : evE e = 2 := by rw [hE, g1, g2]; simp
          refine c_assoc ?_
          refine c_reg fun K hK => ?_
          simp (maxSteps := 2000000) only [vm, vr, q19, kl, reduceIte, Nat.reduceEqDiff, Nat.reduceAdd, Nat.reduceLeDiff, reduceCtorEq]
          (refine hK _ ?_; clear hK; clear K)
          refine c_if _ rfl (fun hb4 => ?_) (fun hb4 => ?_) <;> (have hp4 := hb4; try simp only [] at hp4)
          refine c_skip ?_
          refine c_block ?_
          refine c_reg fun K hK => ?_
          simp (maxSteps := 2000000) only [vm, vr, q19, reduceIte, Nat.reduceEqDiff, Nat.reduceAdd, Nat.reduceLeDiff, reduceCtorEq]
          (refine atI_map default (by first | assumption | omega | (simp; done) | (simp; omega)) (by first | assumption | omega | (simp; done) | (simp; omega)) ?_; simp (maxSteps := 2000000) only [vm, vr, q19, he', reduceIte, Nat.reduceEqDiff, Nat.reduceAdd, reduceCtorEq])
          refine need_by (by first | assumption | omega | (simp; done) | (simp; omega)) ?_
          (refine hK _ ?_; clear hK; clear K)
          refine c_assoc ?_
          refine c_reg fun K hK => ?_
          simp (maxSteps := 2000000) only [vm, vr, q19, reduceIte, Nat.reduceEqDiff, Nat.reduceLeDiff, reduceCtorEq]
          (apply s_call (spec21 _); (case hf => rfl); (case hq => (simp (maxSteps := 2000000) only [vm, reduceIte, Nat.reduceEqDiff]; rfl)); (case hvs => rfl))
          simp (maxSteps := 2000000) only [vm, vr, q19, g1, reduceIte, Nat.reduceEqDiff, Nat.reduceAdd, Nat.reduceLeDiff, reduceCtorEq]
          (apply s_call (spec83 _ _); (case hf => rfl); (case hq => (simp (maxSteps := 2000000) only [vm, reduceIte, Nat.reduceEqDiff]; rfl)); (case hvs => rfl))
          simp (maxSteps := 2000000) only [vm, vr, g2, reduceIte, Nat.reduceEqDiff]
          (refine hK _ ?_; clear hK; clear K)
          refine c_if _ rfl (fun hb5 => ?_) (fun hb5 => ?_) <;> (have hp5 := hb5; try simp only [] at hp5)
          refine c_assoc ?_
          refine c_reg fun K hK => ?_
          simp (maxSteps := 2000000) only [vm, vr, reduceIte, Nat.reduceEqDiff]
          (refine hK _ ?_; clear hK; clear K)
          refine c_ret ?_
          simp only [thenV_r, blockV_r]
          simp (maxSteps := 2000000) only [vm, vr, reduceIte, Nat.reduceEqDiff]
          rotate_left
          cases hb5
          cases hb4
          rw [ev_ret hq hil (by rw [he', hv]; simp), he', hv]
        | true =>
          rcases Int.lt_or_le e.2.2 e.2.1 with g3 | g3
          · have hv : evE e = 9 := by rw [hE, g1, g2, show decide (e.2.1 ≤ e.2.2) = false by simp; omega]; simp
            have g3' : decide (e.2.1 > e.2.2) = true := by simp; omega
            refine c_assoc ?_
            refine c_reg fun K hK => ?_
            simp (maxSteps := 2000000) only [vm, vr, q19, kl, reduceIte, Nat.reduceEqDiff, Nat.reduceAdd, Nat.reduceLeDiff, reduceCtorEq]
            (refine hK _ ?_; clear hK; clear K)
            refine c_if _ rfl (fun hb4 => ?_) (fun hb4 => ?_) <;> (have hp4 := hb4; try simp only [] at hp4)
            refine c_skip ?_
            refine c_block ?_
            refine c_reg fun K hK => ?_
            simp (maxSteps := 2000000) only [vm, vr, q19, reduceIte, Nat.reduceEqDiff, Nat.reduceAdd, Nat.reduceLeDiff, reduceCtorEq]
            (refine atI_map default (by first | assumption | omega | (simp; done) | (simp; omega)) (by first | assumption | omega | (simp; done) | (simp; omega)) ?_; simp (maxSteps := 2000000) only [vm, vr, q19, he', reduceIte, Nat.reduceEqDiff, Nat.reduceAdd, reduceCtorEq])
            refine need_by (by first | assumption | omega | (simp; done) | (simp; omega)) ?_
            (refine hK _ ?_; clear hK; clear K)
            refine c_assoc ?_
            refine c_reg fun K hK => ?_
            simp (maxSteps := 2000000) only [vm, vr, q19, reduceIte, Nat.reduceEqDiff, Nat.reduceLeDiff, reduceCtorEq]
            (apply s_call (spec21 _); (case hf => rfl); (case hq => (simp (maxSteps := 2000000) only [vm, reduceIte, Nat.reduceEqDiff]; rfl)); (case hvs => rfl))
            simp (maxSteps := 2000000) only [vm, vr, q19, g1, reduceIte, Nat.reduceEqDiff, Nat.reduceAdd, Nat.reduceLeDiff, reduceCtorEq]
            (apply s_call (spec83 _ _); (case hf => rfl); (case hq => (simp (maxSteps := 2000000) only [vm, reduceIte, Nat.reduceEqDiff]; rfl)); (case hvs => rfl))
            simp (maxSteps := 2000000) only [vm, vr, g2, reduceIte, Nat.reduceEqDiff]
            (refine hK _ ?_; clear hK; clear K)
            refine c_if _ rfl (fun hb5 => ?_) (fun hb5 => ?_) <;> (have hp5 := hb5; try simp only [] at hp5)
            cases hb5
            refine c_skip ?_
            refine c_reg fun K hK => ?_
            simp (maxSteps := 2000000) only [vm, vr, q19, g3', reduceIte, Nat.reduceEqDiff, Nat.reduceAdd, Nat.reduceLeDiff, reduceCtorEq]
            (refine hK _ ?_; clear hK; clear K)
            refine vcode_if _ rfl (fun hb6 => ?_) (fun hb6 => ?_) <;> (have hp6 := hb6; try simp only [] at hp6)
            refine c_reg fun K hK => ?_
            simp (maxSteps := 2000000) only [vm, vr, reduceIte, Nat.reduceEqDiff]
            (refine hK _ ?_; clear hK; clear K)
            refine c_ret1 ?_
            simp only [thenV_r, blockV_r]
            simp (maxSteps := 2000000) only [vm, vr, reduceIte, Nat.reduceEqDiff]
            rotate_left
            cases hb6
            cases hb4
            rw [ev_ret hq hil (by rw [he', hv]; simp), he', hv]
          · have hv : evE e = 0 := by rw [hE, g1, g2, show decide (e.2.1 ≤ e.2.2) = true by simp; omega]; simp
            have g3' : decide (e.2.1 > e.2.2) = false := by simp; omega
            refine c_assoc ?_
            refine c_reg fun K hK => ?_
            simp (maxSteps := 2000000) only [vm, vr, q19, kl, reduceIte, Nat.reduceEqDiff, Nat.reduceAdd, Nat.reduceLeDiff, reduceCtorEq]
            (refine hK _ ?_; clear hK; clear K)
            refine c_if _ rfl (fun hb4 => ?_) (fun hb4 => ?_) <;> (have hp4 := hb4; try simp only [] at hp4)
            refine c_skip ?_
            refine c_block ?_
            refine c_reg fun K hK => ?_
            simp (maxSteps := 2000000) only [vm, vr, q19, reduceIte, Nat.reduceEqDiff, Nat.reduceAdd, Nat.reduceLeDiff, reduceCtorEq]
            (refine atI_map default (by first | assumption | omega | (simp; done) | (simp; omega)) (by first | assumption | omega | (simp; done) | (simp; omega)) ?_; simp (maxSteps := 2000000) only [vm, vr, q19, he', reduceIte, Nat.reduceEqDiff, Nat.reduceAdd, reduceCtorEq])
            refine need_by (by first | assumption | omega | (simp; done) | (simp; omega)) ?_
            (refine hK _ ?_; clear hK; clear K)
            refine c_assoc ?_
            refine c_reg fun K hK => ?_
            simp (maxSteps := 2000000) only [vm, vr, q19, reduceIte, Nat.reduceEqDiff, Nat.reduceLeDiff, reduceCtorEq]
            (apply s_call (spec21 _); (case hf => rfl); (case hq => (simp (maxSteps := 2000000) only [vm, reduceIte, Nat.reduceEqDiff]; rfl)); (case hvs => rfl))
            simp (maxSteps := 2000000) only [vm, vr, q19, g1, reduceIte, Nat.reduceEqDiff, Nat.reduceAdd, Nat.reduceLeDiff, reduceCtorEq]
            (apply s_call (spec83 _ _); (case hf => rfl); (case hq => (simp (maxSteps := 2000000) only [vm, reduceIte, Nat.reduceEqDiff]; rfl)); (case hvs => rfl))
            simp (maxSteps := 2000000) only [vm, vr, g2, reduceIte, Nat.reduceEqDiff]
            (refine hK _ ?_; clear hK; clear K)
            refine c_if _ rfl (fun hb5 => ?_) (fun hb5 => ?_) <;> (have hp5 := hb5; try simp only [] at hp5)
            cases hb5
            refine c_skip ?_
            refine c_reg fun K hK => ?_
            simp (maxSteps := 2000000) only [vm, vr, q19, g3', reduceIte, Nat.reduceEqDiff, Nat.reduceAdd, Nat.reduceLeDiff, reduceCtorEq]
            (refine hK _ ?_; clear hK; clear K)
            refine vcode_if _ rfl (fun hb6 => ?_) (fun hb6 => ?_) <;> (have hp6 := hb6; try simp only [] at hp6)
            cases hb6
            refine c_skip1 ?_
            simp only [thenV_n, blockV_n]
            refine c_reg1 fun K hK => ?_
            simp (maxSteps := 2000000) only [vm, vr, reduceIte, Nat.reduceEqDiff]
            (simp (disch := omega) only [wr64]; try simp (maxSteps := 2000000) only [vm, vr, vp, q19, he', kl, g1, g2, g3', hb1, hb2, hb3, hb4, hb5, hb6, Int.reduceBNe, Int.reduceBEq, Int.reduceLT, Int.reduceLE, Int.reduceGT, Int.reduceGE, decide_true, decide_false, bne_self_eq_false, beq_self_eq_true, reduceIte, Nat.reduceEqDiff, Nat.reduceAdd, Nat.reduceLeDiff, Nat.reduceMul, Nat.reduceLT, reduceCtorEq])
            (refine hK _ ?_; clear hK; clear K)
            simp only [thenV_n]
            rotate_left
            cases hb4
            refine ⟨i + 1, ?_, ⟨by omega, ev_go hq hil (by rw [he', hv])⟩, by omega⟩
            (simp (maxSteps := 2000000) only [vm, vmk, reduceIte, Nat.reduceEqDiff, Nat.reduceAdd, Nat.reduceLT, reduceCtorEq]; try simp (disch := omega) only [wr64]; try omega)
            rfl
    · have kl : decide ((i : Int) < (es.length : Int)) = false := by simp; omega
      refine c_assoc ?_
      refine c_reg fun K hK => ?_
      simp (maxSteps := 2000000) only [vm, vr, q19, kl, reduceIte, Nat.reduceEqDiff, Nat.reduceAdd, Nat.reduceLeDiff, reduceCtorEq]
      (refine hK _ ?_; clear hK; clear K)
      refine c_if _ rfl (fun hb4 => ?_) (fun hb4 => ?_) <;> (have hp4 := hb4; try simp only [] at hp4)
      cases hb4
      refine c_exit ?_
      simp only [thenV_n, thenV_e, blockV_e, reduceIte]
      refine c_reg fun K hK => ?_
      simp (maxSteps := 2000000) only [vm, vr]
      (refine hK _ ?_; clear hK; clear K)
      refine c_ret1 ?_
      simp (maxSteps := 2000000) only [vm, vr, reduceIte, Nat.reduceEqDiff]
      rw [ev_end hq hil]; rfl
theorem spec19 (c0 c1 s0 s1 : Int) (es : List (Int × Int × Int)) (hl : es.length < 1000000) : Sp0 19 [lawL c0 c1 s0 s1 es] (R.v2 (nn (lawV c0 c1 s0 s1 es).1) (nn (lawV c0 c1 s0 s1 es).2)) := by
  by_cases h0 : lawHead c0 c1 s0 s1 es.length = 0
  · exact spec19w1 c0 c1 s0 s1 es hl h0
  · exact spec19w2 c0 c1 s0 s1 es hl h0
theorem spec14 (c0 c1 s0 s1 : Int) (es : List (Int × Int × Int)) (hl : es.length < 1000000) : Sp0 14 [lawL c0 c1 s0 s1 es] (R.v (nn (lawV c0 c1 s0 s1 es).2)) := by
  refine spec_of mixed (fun _ _ _ h => h) Try.func14 (by decide +kernel) rfl (rs := _) rfl rfl (by simp [Try.f14]) (by decide +kernel) ?_; simp only [argsG]
  refine c_reg fun K hK => ?_
  simp (maxSteps := 2000000) only [vm, vr, reduceIte, Nat.reduceAdd]
  refine need_by (by first | assumption | omega | (simp; done) | (simp; omega)) ?_
  (refine hK _ ?_; clear hK; clear K)
  refine c_reg fun K hK => ?_
  simp (maxSteps := 2000000) only [vm, vr, q14, reduceIte, Nat.reduceEqDiff, Nat.reduceAdd, Nat.reduceLeDiff, reduceCtorEq]
  (apply s_call2 (spec19 _ _ _ _ _ ?s19601x1); (case hf => rfl); (case hq => (simp (maxSteps := 2000000) only [vm, reduceIte, Nat.reduceEqDiff, reduceCtorEq]; rfl)); (case hvs => rfl); (case s19601x1 => first | assumption | omega | (simp; done) | (simp; omega)))
  simp (maxSteps := 2000000) only [vm, vr, reduceIte, Nat.reduceEqDiff, reduceCtorEq]
  (refine hK _ ?_; clear hK; clear K)
  refine c_reg fun K hK => ?_
  simp (maxSteps := 2000000) only [vm, vr, reduceIte, Nat.reduceEqDiff, reduceCtorEq]
  (refine hK _ ?_; clear hK; clear K)
  refine c_ret1 ?_
  simp (maxSteps := 2000000) only [vm, vr, reduceIte, Nat.reduceEqDiff, reduceCtorEq]
theorem spec126 (s : Int × Int × Int × Int) (p : Int × Int × Int) (hs : -1000 ≤ s.1 ∧ s.1 ≤ 1000 ∧ -1000 ≤ s.2.1 ∧ s.2.1 ≤ 1000) (hp : -100000000 ≤ p.1 ∧ p.1 ≤ 100000000 ∧ -100000000 ≤ p.2.1 ∧ p.2.1 ≤ 100000000) : Sp0 126 [st4 s, ev3 p] (R.v (nn (s.1 * p.1 + s.2.1 * p.2.1))) := by
  have m1 := mul_bound (x := s.1) (y := p.1) (X := 1000) (Y := 100000000) (by omega) (by omega) (by omega) (by omega)
  have m2 := mul_bound (x := s.2.1) (y := p.2.1) (X := 1000) (Y := 100000000) (by omega) (by omega) (by omega) (by omega)
  refine spec_of mixed (fun _ _ _ h => h) Try.func126 (by decide +kernel) rfl (rs := _) rfl rfl (by simp [Try.f126]) (by decide +kernel) ?_; simp only [argsG, Nat.zero_add]
  refine c_reg fun K hK => ?_
  simp (maxSteps := 2000000) only [vm, vr, reduceIte, Nat.reduceEqDiff, Nat.reduceAdd, reduceCtorEq]
  refine need_by (by first | assumption | omega | (simp; done) | (simp; omega)) ?_
  refine need_by (by first | assumption | omega | (simp; done) | (simp; omega)) ?_
  (refine hK _ ?_; clear hK; clear K)
  refine c_reg fun K hK => ?_
  simp (maxSteps := 2000000) only [vm, vr, q126, reduceIte, Nat.reduceEqDiff, Nat.reduceAdd, Nat.reduceLeDiff, reduceCtorEq]
  (simp (disch := omega) only [wr64]; try simp (maxSteps := 2000000) only [vm, vr, vp, q126, Int.reduceBNe, Int.reduceBEq, Int.reduceLT, Int.reduceLE, Int.reduceGT, Int.reduceGE, decide_true, decide_false, bne_self_eq_false, beq_self_eq_true, reduceIte, Nat.reduceEqDiff, Nat.reduceAdd, Nat.reduceLeDiff, Nat.reduceMul, Nat.reduceLT, reduceCtorEq])
  (refine hK _ ?_; clear hK; clear K)
  refine c_ret1 ?_
  simp (maxSteps := 2000000) only [vm, vr, reduceIte, Nat.reduceEqDiff, reduceCtorEq]
end Go.Vm
