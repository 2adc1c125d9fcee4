import Derived.Test.YtaoocondfgkpnaaGreatDoorVmBC
import Derived.Test.YtaoocondfgkpnaaGreatDoorWpF
set_option linter.all false
namespace Go.Vm
open Go.Proofs
set_option maxRecDepth 20000
set_option maxHeartbeats 8000000
theorem dropS {α : Type} {xs : List α} {i : Nat} (d : α) (h : i < xs.length) : xs.drop i = xs.getD i d :: xs.drop (i + 1) := by
  rw [List.drop_eq_getElem_cons h]; simp [List.getD, h]
theorem takeS {α : Type} {xs : List α} {i : Nat} (d : α) (h : i < xs.length) : xs.take (i + 1) = xs.take i ++ [xs.getD i d] := by
  rw [List.take_add_one, List.getElem?_eq_getElem h]; simp [List.getD, h]
theorem mul_bound {x y X Y : Int} (hx : -X ≤ x) (hx' : x ≤ X) (hy : -Y ≤ y) (hy' : y ≤ Y) : -(X * Y) ≤ x * y ∧ x * y ≤ X * Y := by
  have h1 : x.natAbs ≤ X.natAbs := by omega
  have h2 : y.natAbs ≤ Y.natAbs := by omega
  have h3 : (x * y).natAbs ≤ (X * Y).natAbs := by rw [Int.natAbs_mul, Int.natAbs_mul]; exact Nat.mul_le_mul h1 h2
  have h4 : 0 ≤ X * Y := Int.mul_nonneg (by omega) (by omega)
  omega
theorem tdiv_bound {n d X : Int} (h : -X ≤ n) (h' : n ≤ X) : -X ≤ n.tdiv d ∧ n.tdiv d ≤ X := by
  have h1 : (n.tdiv d).natAbs ≤ n.natAbs := by rw [Int.natAbs_tdiv]; exact Nat.div_le_self _ _
  omega
def withinV (n lo hi : Int) : Bool := decide (lo ≤ n) && decide (n ≤ hi)
theorem wi2 {n lo hi : Int} : withinV n lo hi = true ↔ lo ≤ n ∧ n ≤ hi := by simp [withinV]
theorem wi2f {n lo hi : Int} : withinV n lo hi = false ↔ ¬ (lo ≤ n ∧ n ≤ hi) := by rw [Bool.eq_false_iff, Ne, wi2]
theorem spec44 (n lo hi : Int) : Sp0 44 [nn n, nn lo, nn hi] (R.v (.b (withinV n lo hi))) := by
  refine spec_of mixed (fun _ _ _ h => h) Tryz.func44 (by decide +kernel) rfl (rs := _) rfl (by rfl) rfl (by simp [Tryz.f44]) (by decide +kernel) ?_; simp only [argsG, Nat.zero_add, Nat.reduceAdd]
  refine c_reg fun K hK => ?_
  simp (maxSteps := 2000000) only [vm]
  (refine hK _ ?_; clear hK; clear K)
  refine c_reg fun K hK => ?_
  simp (maxSteps := 2000000) only [vm, vr, reduceIte, Nat.reduceEqDiff, reduceCtorEq]
  refine guard_by (fun hb1 => ?_) (fun hb1 => ?_) <;> (have hp1 := hb1; try simp only [decide_eq_true_eq, decide_eq_false_iff_not, Int.not_le] at hp1)
  simp (maxSteps := 2000000) only [vm, hb1]
  (refine hK _ ?_; clear hK; clear K)
  refine c_ret1 ?_
  simp (maxSteps := 2000000) only [vm, vr, reduceIte, Nat.reduceEqDiff, reduceCtorEq]
  rotate_left
  simp (maxSteps := 2000000) only [vm, hb1]
  (refine hK _ ?_; clear hK; clear K)
  refine c_ret1 ?_
  simp (maxSteps := 2000000) only [vm, vr, reduceIte, Nat.reduceEqDiff, reduceCtorEq]
  rotate_left
  all_goals simp [withinV, hb1]
theorem spec8 (n lo hi : Int) : Sp0 8 [nn n, nn lo, nn hi] (R.v (.b (withinV n lo hi))) := by
  refine spec_of mixed (fun _ _ _ h => h) Tryz.func8 (by decide +kernel) rfl (rs := _) rfl (by rfl) rfl (by simp [Tryz.f8]) (by decide +kernel) ?_; simp only [argsG, Nat.zero_add, Nat.reduceAdd]
  refine c_reg fun K hK => ?_
  simp (maxSteps := 2000000) only [vm]
  (refine hK _ ?_; clear hK; clear K)
  refine c_reg fun K hK => ?_
  simp (maxSteps := 2000000) only [vm, vr, reduceIte, Nat.reduceEqDiff, reduceCtorEq]
  refine guard_by (fun hb1 => ?_) (fun hb1 => ?_) <;> (have hp1 := hb1; try simp only [decide_eq_true_eq, decide_eq_false_iff_not, Int.not_le] at hp1)
  simp (maxSteps := 2000000) only [vm, hb1]
  (refine hK _ ?_; clear hK; clear K)
  refine c_ret1 ?_
  simp (maxSteps := 2000000) only [vm, vr, reduceIte, Nat.reduceEqDiff, reduceCtorEq]
  rotate_left
  simp (maxSteps := 2000000) only [vm, hb1]
  (refine hK _ ?_; clear hK; clear K)
  refine c_ret1 ?_
  simp (maxSteps := 2000000) only [vm, vr, reduceIte, Nat.reduceEqDiff, reduceCtorEq]
  rotate_left
  all_goals simp [withinV, hb1]
theorem spec43 (b : Bool) (e : Int) : Sp0 43 [.b b, nn e] (R.v (nn (if b then 0 else e))) := by
  refine spec_of mixed (fun _ _ _ h => h) Tryz.func43 (by decide +kernel) rfl (rs := _) rfl (by rfl) rfl (by simp [Tryz.f43]) (by decide +kernel) ?_; simp only [argsG, Nat.zero_add]
  refine c_reg fun K hK => ?_
  simp (maxSteps := 2000000) only [vm]
  (refine hK _ ?_; clear hK; clear K)
  refine c_assoc ?_
  refine c_reg fun K hK => ?_
  simp (maxSteps := 2000000) only [vm, reduceIte, reduceCtorEq]
  (refine hK _ ?_; clear hK; clear K)
  refine c_if _ rfl (fun hb1 => ?_) (fun hb1 => ?_) <;> (have hp1 := hb1; try simp only [decide_eq_true_eq, decide_eq_false_iff_not, Bool.and_eq_true, Bool.or_eq_true, Bool.not_eq_true', Bool.not_eq_false', Bool.and_eq_false_iff, Bool.or_eq_false_iff, beq_iff_eq, bne_iff_ne, beq_eq_false_iff_ne, bne_eq_false_iff_eq, Bool.not_eq_false, Int.not_lt, Int.not_le] at hp1)
  refine c_assoc ?_
  refine c_reg fun K hK => ?_
  simp (maxSteps := 2000000) only [vm, hb1]
  (refine hK _ ?_; clear hK; clear K)
  refine c_ret ?_
  simp (maxSteps := 2000000) only [vm, vr, hb1, reduceIte, Nat.reduceEqDiff, reduceCtorEq]
  refine c_skip ?_
  refine c_reg fun K hK => ?_
  simp (maxSteps := 2000000) only [vm, hb1, reduceIte, Nat.reduceEqDiff, reduceCtorEq]
  (refine hK _ ?_; clear hK; clear K)
  refine c_ret1 ?_
  simp (maxSteps := 2000000) only [vm, vr, hb1, reduceIte, Nat.reduceEqDiff, reduceCtorEq]
def firstV (xs : List Int) : Int := (xs.find? (· != 0)).getD 0
theorem firstV_cons {x : Int} {r : List Int} : firstV (x :: r) = if x = 0 then firstV r else x := by
  unfold firstV; rw [List.find?_cons]
  by_cases h : x = 0
  · simp [h]
  · rw [show (x != 0) = true by simpa using h, if_neg h]; rfl
theorem firstV_nil : firstV [] = 0 := rfl
theorem first_cons0 {e : Int} {r : List Int} (h : e = 0) : firstV (e :: r) = firstV r := by rw [firstV_cons, if_pos h]
theorem spec42 (xs : List Int) (hl : xs.length < 1000000) : Sp0 42 [.sl (xs.map nn)] (R.v (nn (firstV xs))) := by
  refine spec_of mixed (fun _ _ _ h => h) Tryz.func42 (by decide +kernel) rfl (rs := _) rfl (by rfl) rfl (by simp [Tryz.f42]) (by decide +kernel) ?_; simp only [argsG]
  refine c_reg fun K hK => ?_
  simp (maxSteps := 2000000) only [vm]
  (refine hK _ ?_; clear hK; clear K)
  refine c_assoc ?_
  refine c_reg fun K hK => ?_
  simp (maxSteps := 2000000) only [vm, q42, reduceIte, Nat.reduceEqDiff, reduceCtorEq]
  (refine hK _ ?_; clear hK; clear K)
  refine c_block ?_
  refine vcode_loop (fun i : Nat => [(2, L.p (nn 0)), (5, L.p (V.sl (List.map nn xs))), (6, L.p (nn xs.length)), (7, L.p (nn i))]) (fun _ => []) (fun i => i ≤ xs.length ∧ firstV xs = firstV (xs.drop i)) (fun i => xs.length - i) 0 ⟨Nat.zero_le _, by simp⟩ ?_ ?_
  · simp (maxSteps := 2000000) only [vm, vmk, reduceIte, Nat.reduceEqDiff, reduceCtorEq]
  · rintro i ⟨hi, hf⟩
    refine c_reg fun K hK => ?_
    simp (maxSteps := 2000000) only [vm, reduceIte, Nat.reduceEqDiff]
    (refine hK _ ?_; clear hK; clear K)
    refine c_if _ rfl (fun hb1 => ?_) (fun hb1 => ?_) <;> (have hp1 := hb1; try simp only [decide_eq_true_eq, decide_eq_false_iff_not, Int.not_lt] at hp1)
    refine c_skip ?_
    refine c_block ?_
    refine c_reg fun K hK => ?_
    simp (maxSteps := 2000000) only [vm, vr, q42, hb1, reduceIte, Nat.reduceEqDiff]
    (refine atI_map 0 (by first | assumption | omega | (simp; done) | (simp; omega)) (by first | assumption | omega | (simp; done) | (simp; omega)) ?_; simp (maxSteps := 2000000) only [vm, vr, q42])
    (refine hK _ ?_; clear hK; clear K)
    refine c_reg fun K hK => ?_
    simp (maxSteps := 2000000) only [vm, reduceIte, Nat.reduceEqDiff]
    (refine hK _ ?_; clear hK; clear K)
    refine vcode_if _ rfl (fun hb2 => ?_) (fun hb2 => ?_) <;> (have hp2 := hb2; try simp only [bne_iff_ne, bne_eq_false_iff_eq] at hp2)
    refine c_reg fun K hK => ?_
    simp (maxSteps := 2000000) only [vm, hb2, reduceIte, Nat.reduceEqDiff]
    (refine hK _ ?_; clear hK; clear K)
    refine c_ret1 ?_
    simp only [thenV_r, blockV_r]
    simp (maxSteps := 2000000) only [vm, vr, reduceIte, Nat.reduceEqDiff]
    rotate_left
    refine c_skip1 ?_
    simp only [thenV_n, blockV_n]
    refine c_reg1 fun K hK => ?_
    simp (maxSteps := 2000000) only [vm, hb2, reduceIte, Nat.reduceEqDiff]
    (simp (disch := omega) only [wr64]; try simp (maxSteps := 2000000) only [vm, vr, vt, vp, q42, hb1, hb2, Int.reduceBNe, Int.reduceBEq, Int.reduceLT, Int.reduceLE, Int.reduceGT, Int.reduceGE, decide_true, decide_false, bne_self_eq_false, beq_self_eq_true, reduceIte, Nat.reduceEqDiff, Nat.reduceAdd, Nat.reduceLeDiff, Nat.reduceMul, Nat.reduceLT, reduceCtorEq])
    (refine hK _ ?_; clear hK; clear K)
    simp only [thenV_n]
    rotate_left
    refine c_exit ?_
    simp only [thenV_n, thenV_e, blockV_e, reduceIte]
    refine c_reg fun K hK => ?_
    simp (maxSteps := 2000000) only [vm, hb1]
    (refine hK _ ?_; clear hK; clear K)
    refine c_ret1 ?_
    simp (maxSteps := 2000000) only [vm, vr, reduceIte, Nat.reduceEqDiff]
    rotate_left
    · rw [hf, dropS 0 (by omega), firstV, List.find?_cons]; simp only [hb2]; rfl
    · refine ⟨i + 1, ?_, ⟨by omega, ?_⟩, by omega⟩
      · (simp (maxSteps := 2000000) only [vm, vmk, reduceIte, Nat.reduceEqDiff]; try simp (disch := omega) only [wr64]; try omega)
        rfl
      · rw [hf, dropS 0 (by omega), firstV, List.find?_cons]; simp only [hb2]; rfl
    · rw [hf, List.drop_of_length_le (by omega)]; rfl
theorem spec42w2 (a b : Int) : Sp0 42 [.sl [nn a, nn b]] (R.v (nn (firstV [a, b]))) := spec42 [a, b] (by simp)
theorem spec42w4 (a b c d : Int) : Sp0 42 [.sl [nn a, nn b, nn c, nn d]] (R.v (nn (firstV [a, b, c, d]))) := spec42 [a, b, c, d] (by simp)
/-- The loop of the greatest common divisor, as it stands. -/
def gcdL (a b : Int) : Int := if h : b = 0 then a else gcdL b (a.tmod b)
termination_by b.natAbs
decreasing_by
  rw [Int.natAbs_tmod]
  exact Nat.mod_lt _ (by omega)
def absV (n : Int) : Int := max n (IntKind.wrap .i64 (0 - n))
def gcdV (a b : Int) : Int := absV (gcdL a b)
theorem tmod_lt' {c d : Int} (h : d ≠ 0) : (c.tmod d).natAbs < d.natAbs := by
  rw [Int.natAbs_tmod]; exact Nat.mod_lt _ (by omega)
theorem spec91 (n : Int) : Sp0 91 [nn n] (R.v (nn (absV n))) := by
  refine spec_of mixed (fun _ _ _ h => h) Tryz.func91 (by decide +kernel) rfl (rs := _) rfl (by rfl) rfl (by simp [Tryz.f91]) (by decide +kernel) ?_; simp only [argsG]
  refine c_reg fun K hK => ?_
  simp (maxSteps := 2000000) only [vm]
  (refine hK _ ?_; clear hK; clear K)
  refine c_reg fun K hK => ?_
  simp (maxSteps := 2000000) only [vm, reduceIte, Nat.reduceEqDiff, reduceCtorEq]
  (refine hK _ ?_; clear hK; clear K)
  refine c_ret1 ?_
  simp (maxSteps := 2000000) only [vm, vr, reduceIte, Nat.reduceEqDiff, reduceCtorEq]
  rfl
theorem spec52 (a b : Int) : Sp0 52 [nn a, nn b] (R.v (nn (gcdV a b))) := by
  refine spec_of mixed (fun _ _ _ h => h) Tryz.func52 (by decide +kernel) rfl (rs := _) rfl (by rfl) rfl (by simp [Tryz.f52]) (by decide +kernel) ?_; simp only [argsG, Nat.zero_add]
  refine c_reg fun K hK => ?_
  simp (maxSteps := 2000000) only [vm]
  (refine hK _ ?_; clear hK; clear K)
  refine c_block ?_
  refine vcode_loop (fun x : Int × Int => [(0, L.p (nn x.1)), (1, L.p (nn x.2))]) (fun _ => []) (fun x => gcdL a b = gcdL x.1 x.2) (fun x => x.2.natAbs) (a, b) rfl ?_ ?_
  · simp (maxSteps := 2000000) only [vm, vmk, reduceIte, Nat.reduceEqDiff, reduceCtorEq]
  · rintro ⟨c, d⟩ he
    simp only at he ⊢
    refine c_assoc ?_
    refine c_reg fun K hK => ?_
    simp (maxSteps := 2000000) only [vm, reduceIte, Nat.reduceEqDiff, reduceCtorEq]
    (refine hK _ ?_; clear hK; clear K)
    refine c_if _ rfl (fun hb1 => ?_) (fun hb1 => ?_) <;> (have hp1 := hb1; try simp only [bne_iff_ne, bne_eq_false_iff_eq] at hp1)
    refine c_skip ?_
    refine c_block1 ?_
    refine c_draw1 fun K hK => ?_
    simp (maxSteps := 2000000) only [vm, hb1, reduceIte, Nat.reduceEqDiff, reduceCtorEq]
    refine need_by (by first | assumption | omega | (simp; done) | (simp; omega)) ?_
    (refine draw_ok (by decide +kernel) (hK _ ?_); clear hK; clear K)
    simp only [thenV_n, blockV_n]
    rotate_left
    refine c_exit ?_
    simp only [thenV_n, thenV_e, blockV_e, reduceIte]
    refine c_reg fun K hK => ?_
    simp (maxSteps := 2000000) only [vm, hb1, reduceIte, reduceCtorEq]
    (apply s_call (spec91 _); (case hf => rfl); (case hq => (simp (maxSteps := 2000000) only [vm, reduceIte, Nat.reduceEqDiff, reduceCtorEq]; rfl)); (case hvs => rfl))
    simp (maxSteps := 2000000) only [vm, reduceIte, Nat.reduceEqDiff, reduceCtorEq]
    (refine hK _ ?_; clear hK; clear K)
    refine c_ret1 ?_
    simp (maxSteps := 2000000) only [vm, vr, reduceIte, Nat.reduceEqDiff, reduceCtorEq]
    rotate_left
    · refine ⟨(d, c.tmod d), ?_, ?_, tmod_lt' (by omega)⟩
      · simp (maxSteps := 2000000) only [vm, vmk, reduceIte, Nat.reduceEqDiff, reduceCtorEq]
      · rw [he, gcdL, dif_neg (by omega)]
    · rw [gcdV, he, gcdL, dif_pos (by omega)]; try rfl
theorem spec90 (a b : Int) : Sp0 90 [nn a, nn b] (R.v (nn (gcdV a b))) := by
  refine spec_of mixed (fun _ _ _ h => h) Tryz.func90 (by decide +kernel) rfl (rs := _) rfl (by rfl) rfl (by simp [Tryz.f90]) (by decide +kernel) ?_; simp only [argsG, Nat.zero_add]
  refine c_reg fun K hK => ?_
  simp (maxSteps := 2000000) only [vm]
  (refine hK _ ?_; clear hK; clear K)
  refine c_block ?_
  refine vcode_loop (fun x : Int × Int => [(0, L.p (nn x.1)), (1, L.p (nn x.2))]) (fun _ => []) (fun x => gcdL a b = gcdL x.1 x.2) (fun x => x.2.natAbs) (a, b) rfl ?_ ?_
  · simp (maxSteps := 2000000) only [vm, vmk, reduceIte, Nat.reduceEqDiff, reduceCtorEq]
  · rintro ⟨c, d⟩ he
    simp only at he ⊢
    refine c_assoc ?_
    refine c_reg fun K hK => ?_
    simp (maxSteps := 2000000) only [vm, reduceIte, Nat.reduceEqDiff, reduceCtorEq]
    (refine hK _ ?_; clear hK; clear K)
    refine c_if _ rfl (fun hb1 => ?_) (fun hb1 => ?_) <;> (have hp1 := hb1; try simp only [bne_iff_ne, bne_eq_false_iff_eq] at hp1)
    refine c_skip ?_
    refine c_block1 ?_
    refine c_draw1 fun K hK => ?_
    simp (maxSteps := 2000000) only [vm, hb1, reduceIte, Nat.reduceEqDiff, reduceCtorEq]
    refine need_by (by first | assumption | omega | (simp; done) | (simp; omega)) ?_
    (refine draw_ok (by decide +kernel) (hK _ ?_); clear hK; clear K)
    simp only [thenV_n, blockV_n]
    rotate_left
    refine c_exit ?_
    simp only [thenV_n, thenV_e, blockV_e, reduceIte]
    refine c_reg fun K hK => ?_
    simp (maxSteps := 2000000) only [vm, hb1, reduceIte, Nat.reduceEqDiff, reduceCtorEq]
    (refine hK _ ?_; clear hK; clear K)
    refine c_ret1 ?_
    simp (maxSteps := 2000000) only [vm, vr, reduceIte, Nat.reduceEqDiff, reduceCtorEq]
    rotate_left
    · refine ⟨(d, c.tmod d), ?_, ?_, tmod_lt' (by omega)⟩
      · simp (maxSteps := 2000000) only [vm, vmk, reduceIte, Nat.reduceEqDiff, reduceCtorEq]
      · rw [he, gcdL, dif_neg (by omega)]
    · rw [gcdV, he, gcdL, dif_pos (by omega)]; try rfl
theorem gcdL_natAbs (a b : Int) : (gcdL a b).natAbs = Int.gcd a b := by
  fun_induction gcdL a b with
  | case1 a => simp
  | case2 a b h ih =>
    rw [ih]
    simp only [Int.gcd, Int.natAbs_tmod]
    rw [Nat.gcd_comm b.natAbs, ← Nat.gcd_rec, Nat.gcd_comm]
theorem absV_eq {n : Int} (h : -9223372036854775808 < n) (h' : n ≤ 9223372036854775807) : absV n = n.natAbs := by
  unfold absV; rw [wr64 (by omega) (by omega)]; omega
theorem gcd_le_right' {a b : Int} (h : 0 < b) : (Int.gcd a b : Int) ≤ b := by
  have := Nat.le_of_dvd (by omega) (Nat.gcd_dvd_right a.natAbs b.natAbs)
  unfold Int.gcd; omega
theorem gcdV_eq {a b : Int} (h : 0 < b) (h' : b ≤ 9223372036854775807) : gcdV a b = Int.gcd a b := by
  have h1 := gcdL_natAbs a b
  have h2 := gcd_le_right' (a := a) h
  unfold gcdV; rw [absV_eq (by omega) (by omega), h1]
theorem gcd_pos' {a b : Int} (h : 0 < b) : 0 < Int.gcd a b := Int.gcd_pos_of_ne_zero_right _ (by omega)
/-- A fraction in lowest terms. -/
def lowV (n d : Int) : Int × Int := (n.tdiv (Int.gcd n d), d.tdiv (Int.gcd n d))
theorem spec47 (n d : Int) (h1 : -1000000000000000000 ≤ n) (h2 : n ≤ 1000000000000000000) (h3 : 0 < d) (h4 : d ≤ 1000000000000000000) : Sp0 47 [nn n, nn d] (R.v (p2 (lowV n d))) := by
  have hg := gcdV_eq (a := n) h3 (by omega)
  have hp := gcd_pos' (a := n) h3
  have hn := tdiv_bound (d := Int.gcd n d) h1 h2
  have hd := tdiv_bound (n := d) (X := 1000000000000000000) (d := Int.gcd n d) (by omega) h4
  refine spec_of mixed (fun _ _ _ h => h) Tryz.func47 (by decide +kernel) rfl (rs := _) rfl (by rfl) rfl (by simp [Tryz.f47]) (by decide +kernel) ?_; simp only [argsG, Nat.zero_add]
  refine c_reg fun K hK => ?_
  simp (maxSteps := 2000000) only [vm, q47, Nat.reduceAdd]
  refine need_by (by first | assumption | omega | (simp; done) | (simp; omega)) ?_
  (refine hK _ ?_; clear hK; clear K)
  refine c_reg fun K hK => ?_
  simp (maxSteps := 2000000) only [vm, vr, reduceIte, Nat.reduceEqDiff, reduceCtorEq]
  (apply s_call (spec90 _ _); (case hf => rfl); (case hq => (simp (maxSteps := 2000000) only [vm, reduceIte, Nat.reduceEqDiff, reduceCtorEq]; rfl)); (case hvs => rfl))
  simp (maxSteps := 2000000) only [vm, vr, hg, reduceIte, Nat.reduceEqDiff, reduceCtorEq]
  (refine hK _ ?_; clear hK; clear K)
  refine c_draw fun K hK => ?_
  simp (maxSteps := 2000000) only [vm, vr, q47, reduceIte, Nat.reduceEqDiff, Nat.reduceAdd, Nat.reduceLeDiff, reduceCtorEq]
  refine need_by (by first | assumption | omega | (simp; done) | (simp; omega)) ?_
  refine need_by (by first | assumption | omega | (simp; done) | (simp; omega)) ?_
  (refine draw_ok (by decide +kernel) (hK _ ?_); clear hK; clear K)
  refine c_ret1 ?_
  simp (maxSteps := 2000000) only [vm, q47, reduceIte, Nat.reduceEqDiff, Nat.reduceAdd, Nat.reduceLeDiff, reduceCtorEq]
  all_goals first | (unfold lowV; simp (disch := omega) only [wr64]) | omega
theorem spec38 (n d : Int) (h1 : -1000000000000000000 ≤ n) (h2 : n ≤ 1000000000000000000) (h3 : 0 < d) (h4 : d ≤ 1000000000000000000) : Sp0 38 [nn n, nn d] (R.v (p2 (lowV n d))) := by
  have hg := gcdV_eq (a := n) h3 (by omega)
  have hp := gcd_pos' (a := n) h3
  have hn := tdiv_bound (d := Int.gcd n d) h1 h2
  have hd := tdiv_bound (n := d) (X := 1000000000000000000) (d := Int.gcd n d) (by omega) h4
  refine spec_of mixed (fun _ _ _ h => h) Tryz.func38 (by decide +kernel) rfl (rs := _) rfl (by rfl) rfl (by simp [Tryz.f38]) (by decide +kernel) ?_; simp only [argsG, Nat.zero_add]
  refine c_reg fun K hK => ?_
  simp (maxSteps := 2000000) only [vm, q38, Nat.reduceAdd]
  refine need_by (by first | assumption | omega | (simp; done) | (simp; omega)) ?_
  (refine hK _ ?_; clear hK; clear K)
  refine c_reg fun K hK => ?_
  simp (maxSteps := 2000000) only [vm, vr, reduceIte, Nat.reduceEqDiff, reduceCtorEq]
  (apply s_call (spec52 _ _); (case hf => rfl); (case hq => (simp (maxSteps := 2000000) only [vm, reduceIte, Nat.reduceEqDiff, reduceCtorEq]; rfl)); (case hvs => rfl))
  simp (maxSteps := 2000000) only [vm, vr, hg, reduceIte, Nat.reduceEqDiff, reduceCtorEq]
  (refine hK _ ?_; clear hK; clear K)
  refine c_assoc ?_
  refine c_reg fun K hK => ?_
  simp (maxSteps := 2000000) only [vm, vr, reduceIte, Nat.reduceEqDiff, reduceCtorEq]
  (refine hK _ ?_; clear hK; clear K)
  refine c_if _ rfl (fun hb1 => ?_) (fun hb1 => ?_) <;> (have hp1 := hb1; try simp only [decide_eq_true_eq, decide_eq_false_iff_not, Int.not_lt] at hp1)
  refine c_reg fun K hK => ?_
  simp (maxSteps := 2000000) only [vm, vr, hb1, reduceIte, Nat.reduceEqDiff, reduceCtorEq]
  (simp (disch := omega) only [wr64]; try simp (maxSteps := 2000000) only [vm, vr, vt, vp, q38, hg, hb1, Int.reduceBNe, Int.reduceBEq, Int.reduceLT, Int.reduceLE, Int.reduceGT, Int.reduceGE, decide_true, decide_false, bne_self_eq_false, beq_self_eq_true, reduceIte, Nat.reduceEqDiff, Nat.reduceAdd, Nat.reduceLeDiff, Nat.reduceMul, Nat.reduceLT, reduceCtorEq])
  (refine hK _ ?_; clear hK; clear K)
  refine c_draw fun K hK => ?_
  simp (maxSteps := 2000000) only [vm, vr, q38, reduceIte, Nat.reduceEqDiff, Nat.reduceAdd, Nat.reduceLeDiff, reduceCtorEq]
  refine need_by (by first | assumption | omega | (simp; done) | (simp; omega)) ?_
  refine need_by (by first | assumption | omega | (simp; done) | (simp; omega)) ?_
  (refine draw_ok (by decide +kernel) (hK _ ?_); clear hK; clear K)
  refine c_ret1 ?_
  simp (maxSteps := 2000000) only [vm, q38, reduceIte, Nat.reduceEqDiff, Nat.reduceAdd, Nat.reduceLeDiff, reduceCtorEq]
  rotate_left
  refine c_skip ?_
  refine c_draw fun K hK => ?_
  simp (maxSteps := 2000000) only [vm, vr, q38, hb1, reduceIte, Nat.reduceEqDiff, Nat.reduceAdd, Nat.reduceLeDiff, reduceCtorEq]
  refine need_by (by first | assumption | omega | (simp; done) | (simp; omega)) ?_
  refine need_by (by first | assumption | omega | (simp; done) | (simp; omega)) ?_
  (refine draw_ok (by decide +kernel) (hK _ ?_); clear hK; clear K)
  refine c_ret1 ?_
  simp (maxSteps := 2000000) only [vm, q38, reduceIte, Nat.reduceEqDiff, Nat.reduceAdd, Nat.reduceLeDiff, reduceCtorEq]
  rotate_left
  all_goals first | (exfalso; omega) | (unfold lowV; simp (disch := omega) only [wr64]) | omega
end Go.Vm
