import Derived.Test.YtfmkfaohhpmpaaaGreatDoorVmBC
import Derived.Test.YtfmkfaohhpmpaaaGreatDoorWcG
import Derived.Test.YtfmkfaohhpmpaaaGreatDoorWcQ
import Derived.Test.YtfmkfaohhpmpaaaGreatDoorVmBE
set_option linter.all false
namespace Go.Vm
open Go.Proofs
set_option maxRecDepth 20000
set_option maxHeartbeats 8000000
/-! prices -/
structure CPri where
 op : Int
 ch : Int
abbrev cpV (c : CPri) : V := .agg [nn c.op, nn c.ch]
def priE (c : CPri) : Int := if withinV c.op 0 1000 && withinV c.ch 0 1000 then 0 else 2
theorem spec38 (c : CPri) : Sp0 38 [cpV c] (R.v (nn (priE c))) := by
 refine spec_of mixed (fun _ _ _ h => h) Tryz.func38 (by decide +kernel) rfl (rs := _) rfl (by rfl) rfl (by simp [Tryz.f38]) (by decide +kernel) ?_; simp only [argsG]
 refine c_reg fun K hK => ?_
 simp only [vm, vr, reduceIte, Nat.reduceAdd]
 refine need_by (by first | assumption | omega | (simp; done) | (simp; omega)) ?_
 (refine hK _ ?_; clear hK K)
 refine c_reg fun K hK => ?_
 simp only [vm, vr, q38, reduceIte, Nat.reduceEqDiff, Nat.reduceLeDiff, reduceCtorEq]
 (apply s_call (spec36 _ _ _); (case hf => rfl); (case hq => (simp only [vm, reduceIte, Nat.reduceEqDiff, reduceCtorEq]; rfl)); (case hvs => rfl))
 simp only [vm, vr, q38, reduceIte, Nat.reduceEqDiff, Nat.reduceAdd, Nat.reduceLeDiff, reduceCtorEq]
 refine guard_by (fun hb1 => ?_) (fun hb1 => ?_) <;> (have hp1 := hb1; try simp only [decide_eq_true_eq, decide_eq_false_iff_not, Bool.and_eq_true, Bool.or_eq_true, Bool.not_eq_true', Bool.not_eq_false', Bool.and_eq_false_iff, Bool.or_eq_false_iff, beq_iff_eq, bne_iff_ne, beq_eq_false_iff_ne, bne_eq_false_iff_eq, Bool.not_eq_false, Int.not_lt, Int.not_le] at hp1)
 simp only [vm, hb1]
 (apply s_call (spec36 _ _ _); (case hf => rfl); (case hq => (simp only [vm, reduceIte, Nat.reduceEqDiff, reduceCtorEq]; rfl)); (case hvs => rfl))
 simp only [vm, vr, reduceIte, Nat.reduceEqDiff, reduceCtorEq]
 (apply s_call (spec39 _ _); (case hf => rfl); (case hq => (simp only [vm, reduceIte, Nat.reduceEqDiff, reduceCtorEq]; rfl)); (case hvs => rfl))
 simp only [vm, vr, reduceIte, Nat.reduceEqDiff, reduceCtorEq]
 (refine hK _ ?_; clear hK K)
 refine c_ret1 ?_
 simp only [vm, vr, reduceIte, Nat.reduceEqDiff, reduceCtorEq]
 rotate_left
 simp only [vm, hb1]
 (apply s_call (spec39 _ _); (case hf => rfl); (case hq => (simp only [vm, reduceIte, Nat.reduceEqDiff, reduceCtorEq]; rfl)); (case hvs => rfl))
 simp only [vm, vr, reduceIte, Nat.reduceEqDiff, reduceCtorEq]
 (refine hK _ ?_; clear hK K)
 refine c_ret1 ?_
 simp only [vm, vr, reduceIte, Nat.reduceEqDiff, reduceCtorEq]
 rotate_left
 all_goals simp [priE, hb1]
theorem spec13 (c : CPri) : Sp0 13 [cpV c] (R.v (nn (priE c))) := by
 refine spec_of mixed (fun _ _ _ h => h) Tryz.func13 (by decide +kernel) rfl (rs := _) rfl (by rfl) rfl (by simp [Tryz.f13]) (by decide +kernel) ?_; simp only [argsG]
 refine c_reg fun K hK => ?_
 simp only [vm, vr, reduceIte, Nat.reduceAdd]
 refine need_by (by first | assumption | omega | (simp; done) | (simp; omega)) ?_
 (refine hK _ ?_; clear hK K)
 refine c_assoc ?_
 refine c_reg fun K hK => ?_
 simp only [vm, vr, q13, reduceIte, Nat.reduceEqDiff, Nat.reduceLeDiff, reduceCtorEq]
 (apply s_call (spec47 _ _ _); (case hf => rfl); (case hq => (simp only [vm, reduceIte, Nat.reduceEqDiff, reduceCtorEq]; rfl)); (case hvs => rfl))
 simp only [vm, vr, q13, reduceIte, Nat.reduceEqDiff, Nat.reduceAdd, Nat.reduceLeDiff, reduceCtorEq]
 refine guard_by (fun hb1 => ?_) (fun hb1 => ?_) <;> (have hp1 := hb1; try simp only [Bool.not_eq_true', Bool.not_eq_false'] at hp1)
 simp only [vm, hb1]
 (refine hK _ ?_; clear hK K)
 refine c_if _ rfl (fun hb2 => ?_) (fun hb2 => ?_) <;> (have hp2 := hb2; try simp only [] at hp2)
 refine c_assoc ?_
 refine c_reg fun K hK => ?_
 simp only [vm, vr]
 (refine hK _ ?_; clear hK K)
 refine c_ret ?_
 simp only [vm, vr, reduceIte, Nat.reduceEqDiff, reduceCtorEq]
 rotate_left
 cases hb2
 simp only [vm, hb1]
 (apply s_call (spec47 _ _ _); (case hf => rfl); (case hq => (simp only [vm, reduceIte, Nat.reduceEqDiff, reduceCtorEq]; rfl)); (case hvs => rfl))
 simp only [vm, vr, reduceIte, Nat.reduceEqDiff, reduceCtorEq]
 (refine hK _ ?_; clear hK K)
 refine c_if _ rfl (fun hb3 => ?_) (fun hb3 => ?_) <;> (have hp3 := hb3; try simp only [Bool.not_eq_true', Bool.not_eq_false'] at hp3)
 refine c_assoc ?_
 refine c_reg fun K hK => ?_
 simp only [vm, vr, hb3]
 (refine hK _ ?_; clear hK K)
 refine c_ret ?_
 simp only [vm, vr, reduceIte, Nat.reduceEqDiff, reduceCtorEq]
 rotate_left
 refine c_skip ?_
 refine c_reg fun K hK => ?_
 simp only [vm, vr, hb3]
 (refine hK _ ?_; clear hK K)
 refine c_ret1 ?_
 simp only [vm, vr, reduceIte, Nat.reduceEqDiff, reduceCtorEq]
 rotate_left
 all_goals simp_all [priE]
theorem pri_ok {c : CPri} (h : priE c = 0) : (0 ≤ c.op ∧ c.op ≤ 1000) ∧ 0 ≤ c.ch ∧ c.ch ≤ 1000 := by
 have := unless_ok (e := 2) (by decide) h
 simp only [Bool.and_eq_true] at this
 exact ⟨wi2.1 this.1, wi2.1 this.2⟩
def sizeB (s : Nat) : Nat := (hasB s 0).toNat + (hasB s 1).toNat + (hasB s 2).toNat + (hasB s 3).toNat
theorem sizeB_le (s : Nat) : sizeB s ≤ 4 := by
 unfold sizeB
 have k : ∀ b : Bool, b.toNat ≤ 1 := by decide
 have := k (hasB s 0); have := k (hasB s 1); have := k (hasB s 2); have := k (hasB s 3)
 omega
theorem xor_at : ∀ a : Nat, a < 16 → ∀ b : Nat, b < 16 → bitI .xor .i64 (a : Int) (b : Int) = ((a ^^^ b : Nat) : Int) := by decide
theorem xor_lt : ∀ a : Nat, a < 16 → ∀ b : Nat, b < 16 → a ^^^ b < 16 := by decide
theorem ones_at : ∀ s : Nat, s < 16 → Sp0 99 [uu s] (R.v (nn (sizeB s))) := by
 intro s hs
 match s, hs with
 | 0, _ => exact fnE_ok (orc := fun _ _ => none) (itr := fun _ _ _ => none) (fuel := 300) (d := 40) mixed (fun _ _ _ h => by cases h) (fun _ _ _ _ h => by cases h) (by kernel_rfl)
 | 1, _ => exact fnE_ok (orc := fun _ _ => none) (itr := fun _ _ _ => none) (fuel := 300) (d := 40) mixed (fun _ _ _ h => by cases h) (fun _ _ _ _ h => by cases h) (by kernel_rfl)
 | 2, _ => exact fnE_ok (orc := fun _ _ => none) (itr := fun _ _ _ => none) (fuel := 300) (d := 40) mixed (fun _ _ _ h => by cases h) (fun _ _ _ _ h => by cases h) (by kernel_rfl)
 | 3, _ => exact fnE_ok (orc := fun _ _ => none) (itr := fun _ _ _ => none) (fuel := 300) (d := 40) mixed (fun _ _ _ h => by cases h) (fun _ _ _ _ h => by cases h) (by kernel_rfl)
 | 4, _ => exact fnE_ok (orc := fun _ _ => none) (itr := fun _ _ _ => none) (fuel := 300) (d := 40) mixed (fun _ _ _ h => by cases h) (fun _ _ _ _ h => by cases h) (by kernel_rfl)
 | 5, _ => exact fnE_ok (orc := fun _ _ => none) (itr := fun _ _ _ => none) (fuel := 300) (d := 40) mixed (fun _ _ _ h => by cases h) (fun _ _ _ _ h => by cases h) (by kernel_rfl)
 | 6, _ => exact fnE_ok (orc := fun _ _ => none) (itr := fun _ _ _ => none) (fuel := 300) (d := 40) mixed (fun _ _ _ h => by cases h) (fun _ _ _ _ h => by cases h) (by kernel_rfl)
 | 7, _ => exact fnE_ok (orc := fun _ _ => none) (itr := fun _ _ _ => none) (fuel := 300) (d := 40) mixed (fun _ _ _ h => by cases h) (fun _ _ _ _ h => by cases h) (by kernel_rfl)
 | 8, _ => exact fnE_ok (orc := fun _ _ => none) (itr := fun _ _ _ => none) (fuel := 300) (d := 40) mixed (fun _ _ _ h => by cases h) (fun _ _ _ _ h => by cases h) (by kernel_rfl)
 | 9, _ => exact fnE_ok (orc := fun _ _ => none) (itr := fun _ _ _ => none) (fuel := 300) (d := 40) mixed (fun _ _ _ h => by cases h) (fun _ _ _ _ h => by cases h) (by kernel_rfl)
 | 10, _ => exact fnE_ok (orc := fun _ _ => none) (itr := fun _ _ _ => none) (fuel := 300) (d := 40) mixed (fun _ _ _ h => by cases h) (fun _ _ _ _ h => by cases h) (by kernel_rfl)
 | 11, _ => exact fnE_ok (orc := fun _ _ => none) (itr := fun _ _ _ => none) (fuel := 300) (d := 40) mixed (fun _ _ _ h => by cases h) (fun _ _ _ _ h => by cases h) (by kernel_rfl)
 | 12, _ => exact fnE_ok (orc := fun _ _ => none) (itr := fun _ _ _ => none) (fuel := 300) (d := 40) mixed (fun _ _ _ h => by cases h) (fun _ _ _ _ h => by cases h) (by kernel_rfl)
 | 13, _ => exact fnE_ok (orc := fun _ _ => none) (itr := fun _ _ _ => none) (fuel := 300) (d := 40) mixed (fun _ _ _ h => by cases h) (fun _ _ _ _ h => by cases h) (by kernel_rfl)
 | 14, _ => exact fnE_ok (orc := fun _ _ => none) (itr := fun _ _ _ => none) (fuel := 300) (d := 40) mixed (fun _ _ _ h => by cases h) (fun _ _ _ _ h => by cases h) (by kernel_rfl)
 | 15, _ => exact fnE_ok (orc := fun _ _ => none) (itr := fun _ _ _ => none) (fuel := 300) (d := 40) mixed (fun _ _ _ h => by cases h) (fun _ _ _ _ h => by cases h) (by kernel_rfl)
 | n + 16, h => exact absurd h (by omega)
theorem spec78 (s : Nat) (hs : s < 16) : Sp0 78 [uu s] (R.v (nn (sizeB s))) := by
 have hs99 := ones_at s hs
 refine spec_of mixed (fun _ _ _ h => h) Tryz.func78 (by decide +kernel) rfl (rs := _) rfl (by rfl) rfl (by simp [Tryz.f78]) (by decide +kernel) ?_; simp only [argsG]
 refine c_reg fun K hK => ?_
 simp only [vm]
 (refine hK _ ?_; clear hK K)
 refine c_reg fun K hK => ?_
 simp only [vm, reduceIte, reduceCtorEq]
 (apply s_call (hs99); (case hf => rfl); (case hq => (simp only [vm, reduceIte, Nat.reduceEqDiff, reduceCtorEq]; rfl)); (case hvs => rfl))
 simp only [vm, reduceIte, Nat.reduceEqDiff, reduceCtorEq]
 (refine hK _ ?_; clear hK K)
 refine c_ret1 ?_
 simp only [vm, vr, reduceIte, Nat.reduceEqDiff, reduceCtorEq]
abbrev ownC (c : CPri) (s : Nat) : Int := c.op * (sizeB s : Int)
abbrev chgC (c : CPri) (a b : Nat) : Int := c.ch * (sizeB (a ^^^ b) : Int)
theorem own_bound {c : CPri} (h : priE c = 0) (s : Nat) : 0 ≤ ownC c s ∧ ownC c s ≤ 4000 := by
 obtain ⟨⟨a, b⟩, _⟩ := pri_ok h
 have k : (sizeB s : Int) ≤ 4 := by have := sizeB_le s; omega
 have k1 : 0 ≤ c.op * (sizeB s : Int) := Int.mul_nonneg a (by omega)
 have k2 : c.op * (sizeB s : Int) ≤ 1000 * 4 := Int.mul_le_mul b k (by omega) (by omega)
 exact ⟨k1, by show c.op * (sizeB s : Int) ≤ 4000; omega⟩
theorem chg_bound {c : CPri} (h : priE c = 0) (s r : Nat) : 0 ≤ chgC c s r ∧ chgC c s r ≤ 4000 := by
 obtain ⟨_, a, b⟩ := pri_ok h
 have k : (sizeB (s ^^^ r) : Int) ≤ 4 := by have := sizeB_le (s ^^^ r); omega
 have k1 : 0 ≤ c.ch * (sizeB (s ^^^ r) : Int) := Int.mul_nonneg a (by omega)
 have k2 : c.ch * (sizeB (s ^^^ r) : Int) ≤ 1000 * 4 := Int.mul_le_mul b k (by omega) (by omega)
 exact ⟨k1, by show c.ch * (sizeB (s ^^^ r) : Int) ≤ 4000; omega⟩
theorem spec41 (c : CPri) (s : Nat) (hc : priE c = 0) (hs : s < 16) : Sp0 41 [cpV c, nn s] (R.v (nn (ownC c s))) := by
 have hb : 0 ≤ c.op * (sizeB s : Int) ∧ c.op * (sizeB s : Int) ≤ 4000 := own_bound hc s
 have wS : IntKind.wrap .u64 (s : Int) = (s : Int) := wrU (by omega) (by omega)
 have wO : IntKind.wrap .i64 (c.op * (sizeB s : Int)) = c.op * (sizeB s : Int) := wr64 (by omega) (by omega)
 have hs78 := spec78 s hs
 refine spec_of mixed (fun _ _ _ h => h) Tryz.func41 (by decide +kernel) rfl (rs := _) rfl (by rfl) rfl (by simp [Tryz.f41]) (by decide +kernel) ?_; simp only [argsG, Nat.zero_add]
 refine c_reg fun K hK => ?_
 simp only [vm, vr, reduceIte, Nat.reduceAdd, reduceCtorEq]
 refine need_by (by first | assumption | omega | (simp; done) | (simp; omega)) ?_
 (refine hK _ ?_; clear hK K)
 refine c_draw fun K hK => ?_
 simp only [vm, vr, q41, cvis, wS, reduceIte, Nat.reduceEqDiff, Nat.reduceLeDiff, reduceCtorEq]
 (apply d_call (hs78); (case hf => rfl); (case hq => (simp only [vm, reduceIte, Nat.reduceEqDiff, reduceCtorEq]; rfl)); (case hvs => rfl))
 simp only [vm, vr, wO, reduceIte, Nat.reduceEqDiff, reduceCtorEq]
 (refine draw_ok (by decide +kernel) (hK _ ?_); clear hK; clear K)
 refine c_ret1 ?_
 simp only [vm, vr, reduceIte, Nat.reduceEqDiff, reduceCtorEq]
theorem spec42 (c : CPri) (a b : Nat) (hc : priE c = 0) (ha : a < 16) (hb : b < 16) : Sp0 42 [cpV c, nn a, nn b] (R.v (nn (chgC c a b))) := by
 have hq : 0 ≤ c.ch * (sizeB (a ^^^ b) : Int) ∧ c.ch * (sizeB (a ^^^ b) : Int) ≤ 4000 := chg_bound hc a b
 have hx := xor_lt a ha b hb
 have kx := xor_at a ha b hb
 have wS : IntKind.wrap .u64 ((a ^^^ b : Nat) : Int) = ((a ^^^ b : Nat) : Int) := wrU (by omega) (by omega)
 have wO : IntKind.wrap .i64 (c.ch * (sizeB (a ^^^ b) : Int)) = c.ch * (sizeB (a ^^^ b) : Int) := wr64 (by omega) (by omega)
 have hs78 := spec78 (a ^^^ b) hx
 refine spec_of mixed (fun _ _ _ h => h) Tryz.func42 (by decide +kernel) rfl (rs := _) rfl (by rfl) rfl (by simp [Tryz.f42]) (by decide +kernel) ?_; simp only [argsG, Nat.zero_add, Nat.reduceAdd]
 refine c_reg fun K hK => ?_
 simp only [vm, vr, reduceIte, Nat.reduceAdd, reduceCtorEq]
 refine need_by (by first | assumption | omega | (simp; done) | (simp; omega)) ?_
 (refine hK _ ?_; clear hK K)
 refine c_draw fun K hK => ?_
 simp only [vm, vr, q42, cvis, kx, wS, reduceIte, Nat.reduceEqDiff, Nat.reduceAdd, Nat.reduceLeDiff, reduceCtorEq]
 (apply d_call (hs78); (case hf => rfl); (case hq => (simp only [vm, reduceIte, Nat.reduceEqDiff, reduceCtorEq]; rfl)); (case hvs => rfl))
 simp only [vm, vr, wO, reduceIte, Nat.reduceEqDiff, reduceCtorEq]
 (refine draw_ok (by decide +kernel) (hK _ ?_); clear hK; clear K)
 refine c_ret1 ?_
 simp only [vm, vr, reduceIte, Nat.reduceEqDiff, reduceCtorEq]
theorem spec50 (s : Nat) (hs : s < 16) : Sp0 50 [nn s] (R.v (nn (sizeB s))) := by
 match s, hs with
 | 0, _ => exact fnE_ok (orc := fun _ _ => none) (itr := fun _ _ _ => none) (fuel := 300) (d := 40) mixed (fun _ _ _ h => by cases h) (fun _ _ _ _ h => by cases h) (by kernel_rfl)
 | 1, _ => exact fnE_ok (orc := fun _ _ => none) (itr := fun _ _ _ => none) (fuel := 300) (d := 40) mixed (fun _ _ _ h => by cases h) (fun _ _ _ _ h => by cases h) (by kernel_rfl)
 | 2, _ => exact fnE_ok (orc := fun _ _ => none) (itr := fun _ _ _ => none) (fuel := 300) (d := 40) mixed (fun _ _ _ h => by cases h) (fun _ _ _ _ h => by cases h) (by kernel_rfl)
 | 3, _ => exact fnE_ok (orc := fun _ _ => none) (itr := fun _ _ _ => none) (fuel := 300) (d := 40) mixed (fun _ _ _ h => by cases h) (fun _ _ _ _ h => by cases h) (by kernel_rfl)
 | 4, _ => exact fnE_ok (orc := fun _ _ => none) (itr := fun _ _ _ => none) (fuel := 300) (d := 40) mixed (fun _ _ _ h => by cases h) (fun _ _ _ _ h => by cases h) (by kernel_rfl)
 | 5, _ => exact fnE_ok (orc := fun _ _ => none) (itr := fun _ _ _ => none) (fuel := 300) (d := 40) mixed (fun _ _ _ h => by cases h) (fun _ _ _ _ h => by cases h) (by kernel_rfl)
 | 6, _ => exact fnE_ok (orc := fun _ _ => none) (itr := fun _ _ _ => none) (fuel := 300) (d := 40) mixed (fun _ _ _ h => by cases h) (fun _ _ _ _ h => by cases h) (by kernel_rfl)
 | 7, _ => exact fnE_ok (orc := fun _ _ => none) (itr := fun _ _ _ => none) (fuel := 300) (d := 40) mixed (fun _ _ _ h => by cases h) (fun _ _ _ _ h => by cases h) (by kernel_rfl)
 | 8, _ => exact fnE_ok (orc := fun _ _ => none) (itr := fun _ _ _ => none) (fuel := 300) (d := 40) mixed (fun _ _ _ h => by cases h) (fun _ _ _ _ h => by cases h) (by kernel_rfl)
 | 9, _ => exact fnE_ok (orc := fun _ _ => none) (itr := fun _ _ _ => none) (fuel := 300) (d := 40) mixed (fun _ _ _ h => by cases h) (fun _ _ _ _ h => by cases h) (by kernel_rfl)
 | 10, _ => exact fnE_ok (orc := fun _ _ => none) (itr := fun _ _ _ => none) (fuel := 300) (d := 40) mixed (fun _ _ _ h => by cases h) (fun _ _ _ _ h => by cases h) (by kernel_rfl)
 | 11, _ => exact fnE_ok (orc := fun _ _ => none) (itr := fun _ _ _ => none) (fuel := 300) (d := 40) mixed (fun _ _ _ h => by cases h) (fun _ _ _ _ h => by cases h) (by kernel_rfl)
 | 12, _ => exact fnE_ok (orc := fun _ _ => none) (itr := fun _ _ _ => none) (fuel := 300) (d := 40) mixed (fun _ _ _ h => by cases h) (fun _ _ _ _ h => by cases h) (by kernel_rfl)
 | 13, _ => exact fnE_ok (orc := fun _ _ => none) (itr := fun _ _ _ => none) (fuel := 300) (d := 40) mixed (fun _ _ _ h => by cases h) (fun _ _ _ _ h => by cases h) (by kernel_rfl)
 | 14, _ => exact fnE_ok (orc := fun _ _ => none) (itr := fun _ _ _ => none) (fuel := 300) (d := 40) mixed (fun _ _ _ h => by cases h) (fun _ _ _ _ h => by cases h) (by kernel_rfl)
 | 15, _ => exact fnE_ok (orc := fun _ _ => none) (itr := fun _ _ _ => none) (fuel := 300) (d := 40) mixed (fun _ _ _ h => by cases h) (fun _ _ _ _ h => by cases h) (by kernel_rfl)
 | n + 16, h => exact absurd h (by omega)
theorem spec51 (a b : Nat) (ha : a < 16) (hb : b < 16) : Sp0 51 [nn a, nn b] (R.v (nn (sizeB (a ^^^ b)))) := by
 have hx := xor_lt a ha b hb
 have kx := xor_at a ha b hb
 have hs50 := spec50 (a ^^^ b) hx
 refine spec_of mixed (fun _ _ _ h => h) Tryz.func51 (by decide +kernel) rfl (rs := _) rfl (by rfl) rfl (by simp [Tryz.f51]) (by decide +kernel) ?_; simp only [argsG, Nat.zero_add]
 refine c_reg fun K hK => ?_
 simp only [vm]
 (refine hK _ ?_; clear hK K)
 refine c_reg fun K hK => ?_
 simp only [vm, kx, reduceIte, Nat.reduceEqDiff, reduceCtorEq]
 (apply s_call (hs50); (case hf => rfl); (case hq => (simp only [vm, reduceIte, Nat.reduceEqDiff, reduceCtorEq]; rfl)); (case hvs => rfl))
 simp only [vm, reduceIte, Nat.reduceEqDiff, reduceCtorEq]
 (refine hK _ ?_; clear hK K)
 refine c_ret1 ?_
 simp only [vm, vr, reduceIte, Nat.reduceEqDiff, reduceCtorEq]
/-- What the first sets cost. -/
def cosN (c : CPri) (l : List Int) : Nat → Int := cosF (ownC c) (chgC c) (fun i => (l.getD i 0).toNat)
theorem cosN_bound {c : CPri} (h : priE c = 0) {l : List Int} : ∀ {n : Nat}, 0 ≤ cosN c l n ∧ cosN c l n ≤ 8000 * (n : Int)
 | 0 => by simp [cosN, cosF]
 | n + 1 => by
  have ih := cosN_bound h (l := l) (n := n)
  have a := own_bound h (l.getD n 0).toNat
  have b := chg_bound h (l.getD (n - 1) 0).toNat (l.getD n 0).toNat
  unfold cosN at ih ⊢
  simp only [cosF]
  split <;> omega
theorem cosN_0 {c : CPri} {l : List Int} : cosN c l 0 = 0 := rfl
theorem cosN_1 {c : CPri} {l : List Int} {a : Nat} (h : l.getD 0 0 = (a : Int)) : cosN c l (0 + 1) = ownC c a := by
 unfold cosN; simp only [cosF, if_true]; rw [h, Int.toNat_natCast]; omega
theorem cosN_succ {c : CPri} {l : List Int} {n a b : Nat} (h0 : n ≠ 0) (h : l.getD n 0 = (a : Int)) (hb : l.getD (n - 1) 0 = (b : Int)) : cosN c l (n + 1) = cosN c l n + ownC c a + chgC c b a := by
 unfold cosN; simp only [cosF]; rw [h, hb, if_neg h0, Int.toNat_natCast, Int.toNat_natCast]
end Go.Vm
