import Derived.Test.YtafnpnopefamkaaVmBC
import Derived.Test.YtafnpnopefamkaaVpD1
set_option linter.all false
namespace Go.Vm
open Go.Proofs
open Nat renaming reduceEqDiff → rE, reduceAdd → rA, reduceLeDiff → rL, reduceLT → rT, reduceMul → rM
set_option maxRecDepth 20000
set_option maxHeartbeats 8000000
theorem mul_bound {x y X Y : Int} (hx : -X ≤ x) (hx' : x ≤ X) (hy : -Y ≤ y) (hy' : y ≤ Y) : -(X * Y) ≤ x * y ∧ x * y ≤ X * Y := by
 have h1 : x.natAbs ≤ X.natAbs := by omega
 have h2 : y.natAbs ≤ Y.natAbs := by omega
 have h3 : (x * y).natAbs ≤ (X * Y).natAbs := by rw [Int.natAbs_mul, Int.natAbs_mul]; exact Nat.mul_le_mul h1 h2
 have h4 : 0 ≤ X * Y := Int.mul_nonneg (by omega) (by omega)
 omega
theorem tdiv_bound {n d X : Int} (h : -X ≤ n) (h' : n ≤ X) : -X ≤ n.tdiv d ∧ n.tdiv d ≤ X := by
 have h1 : (n.tdiv d).natAbs ≤ n.natAbs := by rw [Int.natAbs_tdiv]; exact Nat.div_le_self _ _
 omega
theorem spec91 (ps : List (Int × Int)) (hl : ps.length < 1000000) : Sp0 91 [.agg [.sl (ps.map p2)]] (R.v (nn (tableV ps).2)) := by
 refine spec_of mixed (fun _ _ _ h => h) Try.func91 (by decide +kernel) rfl (rs := _) rfl (by rfl) rfl (by simp [Try.f91]) (by decide +kernel) ?_; simp only [argsG]
 refine c_reg fun K hK => ?_
 simp only [vx, reduceIte]
 refine nb ?_
 apply hK; clear hK K
 refine c_reg fun K hK => ?_
 simp only [vx, q91, reduceIte, rE, rL, reduceCtorEq]
 (apply s_call2 (spec104 _ ?ya); (case hf => rfl); (case hq => (simp only [vm, reduceIte, rE, reduceCtorEq]; rfl)); (case hvs => rfl); (case ya => first | assumption | omega | (simp <;> omega)))
 simp only [vx, reduceIte, rE, reduceCtorEq]
 apply hK; clear hK K
 refine c_reg fun K hK => ?_
 simp only [vx, reduceIte, rE, reduceCtorEq]
 apply hK; clear hK K
 refine c_ret1 ?_
 simp only [vx, reduceIte, rE, reduceCtorEq]
def rulesErrV (ps : List (Int × Int)) (mix lo hi : Int) : Int := if (tableV ps).2 ≠ 0 then (tableV ps).2 else if withinV mix 0 50 && withinV lo 0 1000 && withinV hi 0 1000 then (if lo ≤ hi then 0 else 9) else 2
theorem spec65 (ps : List (Int × Int)) (mix lo hi : Int) (hl : ps.length < 1000000) : Sp0 65 [.agg [.sl (ps.map p2), nn mix, nn lo, nn hi]] (R.v (nn (rulesErrV ps mix lo hi))) := by
 refine spec_of mixed (fun _ _ _ h => h) Try.func65 (by decide +kernel) rfl (rs := _) rfl (by rfl) rfl (by simp [Try.f65]) (by decide +kernel) ?_; simp only [argsG]
 refine c_reg fun K hK => ?_
 simp only [vx, reduceIte, rA]
 refine nb ?_
 apply hK; clear hK K
 refine c_reg fun K hK => ?_
 simp only [vx, q65, reduceIte, rE, rA, rL, reduceCtorEq]
 (apply s_call (spec75 _ _ _); (case hf => rfl); (case hq => (simp only [vm, reduceIte, rE, reduceCtorEq]; rfl)); (case hvs => rfl))
 simp only [vx, q65, reduceIte, rE, rA, rL, reduceCtorEq]
 refine guard_by (fun hb1 => ?_) (fun hb1 => ?_) <;> (have hp1 := hb1; try simp only [decide_eq_true_eq, decide_eq_false_iff_not, Bool.and_eq_true, Bool.or_eq_true, Bool.not_eq_true', Bool.not_eq_false', Bool.and_eq_false_iff, Bool.or_eq_false_iff, beq_iff_eq, bne_iff_ne, beq_eq_false_iff_ne, bne_eq_false_iff_eq, Bool.not_eq_false, Int.not_lt, Int.not_le] at hp1)
 simp only [vm, hb1]
 (apply s_call (spec90 _); (case hf => rfl); (case hq => (simp only [vm, reduceIte, rE, reduceCtorEq]; rfl)); (case hvs => rfl))
 simp only [vx, q65, reduceIte, rE, rA, rL, reduceCtorEq]
 refine guard_by (fun hb2 => ?_) (fun hb2 => ?_) <;> (have hp2 := hb2; try simp only [decide_eq_true_eq, decide_eq_false_iff_not, Bool.and_eq_true, Bool.or_eq_true, Bool.not_eq_true', Bool.not_eq_false', Bool.and_eq_false_iff, Bool.or_eq_false_iff, beq_iff_eq, bne_iff_ne, beq_eq_false_iff_ne, bne_eq_false_iff_eq, Bool.not_eq_false, Int.not_lt, Int.not_le] at hp2)
 simp only [vm, hb2]
 (apply s_call (spec90 _); (case hf => rfl); (case hq => (simp only [vm, reduceIte, rE, reduceCtorEq]; rfl)); (case hvs => rfl))
 simp only [vx, reduceIte, rE, reduceCtorEq]
 apply hK; clear hK K
 refine c_draw fun K hK => ?_
 simp only [vx, q65, reduceIte, rE, rL, reduceCtorEq]
 (apply d_call (spec91 _ ?yb); (case hf => rfl); (case hq => (simp only [vm, reduceIte, rE, reduceCtorEq]; rfl)); (case hvs => rfl); (case yb => first | assumption | omega | (simp <;> omega)))
 simp only [vx, reduceIte, rE, reduceCtorEq]
 (apply d_call (spec52 _ _); (case hf => rfl); (case hq => (simp only [vm, reduceIte, rE, reduceCtorEq]; rfl)); (case hvs => rfl))
 simp only [vx, q65, reduceIte, rE, rA, rL, reduceCtorEq]
 (apply d_call (spec52 _ _); (case hf => rfl); (case hq => (simp only [vm, reduceIte, rE, reduceCtorEq]; rfl)); (case hvs => rfl))
 simp only [vx, q65, reduceIte, rE, rA, rL, rM, reduceCtorEq]
 refine nb ?_
 (apply d_call (spec51w3 _ _ _); (case hf => rfl); (case hq => (simp only [vm, reduceIte, rE, reduceCtorEq]; rfl)); (case hvs => rfl))
 simp only [vx, reduceIte, rE, reduceCtorEq]
 (refine draw_ok (by decide +kernel) (hK _ ?_); clear hK; clear K)
 refine c_ret1 ?_
 simp only [vx, reduceIte, rE, reduceCtorEq]
 rotate_left
 simp only [vm, hb2]
 apply hK; clear hK K
 refine c_draw fun K hK => ?_
 simp only [vx, q65, reduceIte, rE, rL, reduceCtorEq]
 (apply d_call (spec91 _ ?yc); (case hf => rfl); (case hq => (simp only [vm, reduceIte, rE, reduceCtorEq]; rfl)); (case hvs => rfl); (case yc => first | assumption | omega | (simp <;> omega)))
 simp only [vx, reduceIte, rE, reduceCtorEq]
 (apply d_call (spec52 _ _); (case hf => rfl); (case hq => (simp only [vm, reduceIte, rE, reduceCtorEq]; rfl)); (case hvs => rfl))
 simp only [vx, q65, reduceIte, rE, rA, rL, reduceCtorEq]
 (apply d_call (spec52 _ _); (case hf => rfl); (case hq => (simp only [vm, reduceIte, rE, reduceCtorEq]; rfl)); (case hvs => rfl))
 simp only [vx, q65, reduceIte, rE, rA, rL, rM, reduceCtorEq]
 refine nb ?_
 (apply d_call (spec51w3 _ _ _); (case hf => rfl); (case hq => (simp only [vm, reduceIte, rE, reduceCtorEq]; rfl)); (case hvs => rfl))
 simp only [vx, reduceIte, rE, reduceCtorEq]
 (refine draw_ok (by decide +kernel) (hK _ ?_); clear hK; clear K)
 refine c_ret1 ?_
 simp only [vx, reduceIte, rE, reduceCtorEq]
 rotate_left
 simp only [vm, hb1]
 apply hK; clear hK K
 refine c_draw fun K hK => ?_
 simp only [vx, q65, reduceIte, rE, rL, reduceCtorEq]
 (apply d_call (spec91 _ ?yd); (case hf => rfl); (case hq => (simp only [vm, reduceIte, rE, reduceCtorEq]; rfl)); (case hvs => rfl); (case yd => first | assumption | omega | (simp <;> omega)))
 simp only [vx, reduceIte, rE, reduceCtorEq]
 (apply d_call (spec52 _ _); (case hf => rfl); (case hq => (simp only [vm, reduceIte, rE, reduceCtorEq]; rfl)); (case hvs => rfl))
 simp only [vx, q65, reduceIte, rE, rA, rL, reduceCtorEq]
 (apply d_call (spec52 _ _); (case hf => rfl); (case hq => (simp only [vm, reduceIte, rE, reduceCtorEq]; rfl)); (case hvs => rfl))
 simp only [vx, q65, reduceIte, rE, rA, rL, rM, reduceCtorEq]
 refine nb ?_
 (apply d_call (spec51w3 _ _ _); (case hf => rfl); (case hq => (simp only [vm, reduceIte, rE, reduceCtorEq]; rfl)); (case hvs => rfl))
 simp only [vx, reduceIte, rE, reduceCtorEq]
 (refine draw_ok (by decide +kernel) (hK _ ?_); clear hK; clear K)
 refine c_ret1 ?_
 simp only [vx, reduceIte, rE, reduceCtorEq]
 rotate_left
 all_goals simp only [rulesErrV, firstV_cons, firstV_nil, decide_eq_true_eq]
 all_goals (congr 1; congr 1)
 all_goals (by_cases c0 : (tableV ps).2 = 0 <;> by_cases c1 : lo ≤ hi <;> cases c2 : withinV hi 0 1000 <;> simp_all)
theorem idx_lt {α : Type} (p : α → Bool) (xs : List α) : -1 ≤ idxV p xs ∧ idxV p xs < xs.length + (if xs.length = 0 then 0 else 0) ∨ idxV p xs = -1 := by
 unfold idxV
 cases h : xs.findIdx? p with
 | none => right; rfl
 | some i =>
  left
  rw [List.findIdx?_eq_some_iff_getElem] at h
  obtain ⟨h1, _⟩ := h
  simp only [Option.elim]
  split <;> omega
structure TabOk (ps : List (Int × Int)) : Prop where
 len : 0 < ps.length ∧ ps.length ≤ 10
 rng : ∀ i, i < ps.length → 0 ≤ (ps.getD i default).1 ∧ (ps.getD i default).1 ≤ 20000 ∧ 0 ≤ (ps.getD i default).2 ∧ (ps.getD i default).2 ≤ 20000
 srt : ∀ i, 0 < i → i < ps.length → (ps.getD (i - 1) default).1 < (ps.getD i default).1 ∧ (ps.getD (i - 1) default).2 ≤ (ps.getD i default).2 ∧ (ps.getD i default).2 - (ps.getD (i - 1) default).2 ≤ (ps.getD i default).1 - (ps.getD (i - 1) default).1
def radV (ps : List (Int × Int)) (t : Int) : Int :=
 let i := idxV (fun n => decide (n.1 ≥ t)) ps
 if i < 0 then (ps.getD (ps.length - 1) default).2 else if i = 0 then (ps.getD 0 default).2 else
  let a := ps.getD (i.toNat - 1) default
  let b := ps.getD i.toNat default
  a.2 + ((b.2 - a.2) * (t - a.1)).tdiv (b.1 - a.1)
theorem spec114 (ps : List (Int × Int)) (t : Int) (h : TabOk ps) (h1 : -1000000000 ≤ t) (h2 : t ≤ 1000000000) : Sp0 114 [.agg [.sl (ps.map p2)], nn t] (R.v (nn (radV ps t))) := by
 have hl : ps.length < 1000000 := by have := h.len; omega
 have h0 := h.len.1
 have hidx := idx_lt (fun n => decide (n.1 ≥ t)) ps
 refine spec_of mixed (fun _ _ _ h => h) Try.func114 (by decide +kernel) rfl (rs := _) rfl (by rfl) rfl (by simp [Try.f114]) (by decide +kernel) ?_; simp only [argsG, Nat.zero_add]
 refine c_reg fun K hK => ?_
 simp only [vx, reduceIte, rE, reduceCtorEq]
 refine nb ?_
 refine nb ?_
 apply hK; clear hK K
 refine c_reg fun K hK => ?_
 simp only [vx, q114, reduceIte, rE, rL, reduceCtorEq]
 (apply s_call (spec117 _ _ ?ye); (case hf => rfl); (case hq => (simp only [vm, reduceIte, rE, reduceCtorEq]; rfl)); (case hvs => rfl); (case ye => first | assumption | omega | (simp <;> omega)))
 simp only [vx, reduceIte, rE, reduceCtorEq]
 apply hK; clear hK K
 refine c_block ?_
 refine c_reg fun K hK => ?_
 simp only [vx, reduceIte, rE, reduceCtorEq]
 apply hK; clear hK K
 refine vcode_if _ rfl (fun hb1 => ?_) (fun hb1 => ?_) <;> (have hp1 := hb1; try simp only [decide_eq_true_eq, decide_eq_false_iff_not, Int.not_lt] at hp1)
 refine c_reg fun K hK => ?_
 simp only [vx, q114, hb1, reduceIte, rE, rL, reduceCtorEq]
 simp (disch := omega) only [wr64]
 (refine atI_map default (by first | assumption | omega | (simp <;> omega)) (by first | assumption | omega | (simp <;> omega)) ?_; simp only [vx, vp, q114, rA])
 apply hK; clear hK K
 refine c_ret1 ?_
 simp only [thenV_r, blockV_r]
 simp only [vx, reduceIte, rE, reduceCtorEq]
 rotate_left
 refine c_reg fun K hK => ?_
 simp only [vx, hb1, reduceIte, rE, reduceCtorEq]
 apply hK; clear hK K
 refine vcode_if _ rfl (fun hb2 => ?_) (fun hb2 => ?_) <;> (have hp2 := hb2; try simp only [beq_iff_eq, beq_eq_false_iff_ne] at hp2)
 refine c_reg fun K hK => ?_
 simp only [vx, q114, hb2, reduceIte, rE, rL, reduceCtorEq]
 (refine atI_map default (by first | assumption | omega | (simp <;> omega)) (by first | assumption | omega | (simp <;> omega)) ?_; simp only [vx, vp, q114, rA])
 apply hK; clear hK K
 refine c_ret1 ?_
 simp only [thenV_r, blockV_r]
 simp only [vx, reduceIte, rE, reduceCtorEq]
 rotate_left
 refine c_skip1 ?_
 simp only [thenV_n, blockV_n]
 refine c_draw fun K hK => ?_
 simp only [vx, q114, hb2, reduceIte, rE, rA, rL, reduceCtorEq]
 simp (disch := omega) only [wr64]
 (refine atI_map default (by first | assumption | omega | (simp <;> omega)) (by first | assumption | omega | (simp <;> omega)) ?_; simp only [vx, q114, reduceIte, rE, rA, rL, reduceCtorEq])
 (refine atI_map default (by first | assumption | omega | (simp <;> omega)) (by first | assumption | omega | (simp <;> omega)) ?_; simp only [vx, q114, reduceIte, rE, rA, reduceCtorEq])
 refine nb ?_
 refine nb ?_
 (refine draw_ok (by decide +kernel) (hK _ ?_); clear hK; clear K)
 refine c_draw fun K hK => ?_
 simp only [vx, q114, reduceIte, rE, rA, rL, reduceCtorEq]
 refine need_by2 ?_ ?_
 (refine draw_ok (by decide +kernel) (hK _ ?_); clear hK; clear K)
 refine c_ret1 ?_
 simp only [vx, reduceIte, rE, reduceCtorEq]
 rotate_left
 rotate_left
 ·
  unfold radV; simp only [hp1, if_true]
 ·
  unfold radV; simp only [hp2]; rfl
 all_goals
  obtain ⟨k, hk⟩ := Int.eq_ofNat_of_zero_le hp1
  have hk0 : 0 < k := by omega
  have hkl : k < ps.length := by omega
  have ha := h.rng (k - 1) (by omega)
  have hb := h.rng k hkl
  have hs := h.srt k hk0 hkl
  first | unfold radV | skip
  simp only [hk, castPred, Int.toNat_natCast, show ¬ ((k : Int) < 0) by omega, show ¬ ((k : Int) = 0) by omega, if_false]
  generalize ps.getD (k - 1) default = a at *
  generalize ps.getD k default = b at *
  have hm := mul_bound (x := b.2 - a.2) (y := t - a.1) (X := 20000) (Y := 1000020000) (by omega) (by omega) (by omega) (by omega)
  have hd := tdiv_bound (d := b.1 - a.1) hm.1 hm.2
  simp (disch := omega) only [wr64]
 all_goals omega
theorem checkAt_ok {ps : List (Int × Int)} : ∀ {n i : Nat}, (checkAt ps i n).2 = 0 → ∀ j, i ≤ j → j < i + n → ptE j (ps.getD (j - 1) default) (ps.getD j default) = 0
 | 0, i, h, j, h1, h2 => by omega
 | n + 1, i, h, j, h1, h2 => by
  rw [checkAt] at h
  split at h
  ·
   rename_i hne; exact absurd h hne
  ·
   rename_i he
   by_cases hj : j = i
   ·
    subst hj; exact Decidable.not_not.1 he
   ·
    exact checkAt_ok h j (by omega) (by omega)
theorem w16 {n : Int} (h1 : -100000 ≤ n) (h2 : n ≤ 100000) : IntKind.wrap .i64 n = n := wr64 (by omega) (by omega)
theorem tabOk_of {ps : List (Int × Int)} (h : (tableV ps).2 = 0) : TabOk ps := by
 unfold tableV at h
 split at h
 ·
  simp at h
 ·
  split at h
  ·
   simp at h
  ·
   have hp := fun j (hj : j < ps.length) => checkAt_ok h j (Nat.zero_le _) (by omega)
   have hr : ∀ j, j < ps.length → 0 ≤ (ps.getD j default).1 ∧ (ps.getD j default).1 ≤ 20000 ∧ 0 ≤ (ps.getD j default).2 ∧ (ps.getD j default).2 ≤ 20000 := fun j hj => by
    have := hp j hj
    unfold ptE at this
    split at this
    ·
     rename_i hw; simp [withinV] at hw ⊢; omega
    ·
     simp at this
   refine ⟨by omega, hr, fun i h0 hi => ?_⟩
   have h1 := hr i hi
   have h2 := hr (i - 1) (by omega)
   have h3 := hp i hi
   unfold ptE at h3
   rw [if_pos (by simp [withinV]; simp at h1; omega), if_neg (by omega), w16 (by omega) (by omega), w16 (by omega) (by omega)] at h3
   split at h3
   ·
    split at h3
    ·
     simp at h3
    ·
     omega
   ·
    simp at h3
end Go.Vm
