import Derived.Test.YtbbcjhodcgakcaaDoorWpUz
import Derived.Test.YtbbcjhodcgakcaaDoorWpI
set_option linter.all false
namespace Go.Vm
open Go.Proofs
def oneS (s : PStand) (n : Int) : PStand := { s with llo := n, lhi := n }
def stN (st : List PStand) (ls : List Int) : Nat → List PStand
 | 0 => st
 | n + 1 => (stN st ls n).set n (oneS (st.getD n default) (ls.getD n 0))
theorem stN_len {st : List PStand} {ls : List Int} : ∀ {n : Nat}, (stN st ls n).length = st.length
 | 0 => rfl
 | n + 1 => by simp only [stN, List.length_set]; exact stN_len
theorem getD_set' {α : Type} {xs : List α} {i k : Nat} {v d : α} (h : i < xs.length) : (xs.set i v).getD k d = if k = i then v else xs.getD k d := by
 simp only [List.getD_eq_getElem?_getD, List.getElem?_set]
 by_cases e : k = i
 ·
  subst e; simp [h]
 ·
  rw [if_neg (fun h => e h.symm), if_neg e]
theorem stN_at {st : List PStand} {ls : List Int} : ∀ {n k : Nat}, n ≤ st.length → (stN st ls n).getD k default = if k < n then oneS (st.getD k default) (ls.getD k 0) else st.getD k default
 | 0, k, _ => by simp [stN]
 | n + 1, k, h => by
  simp only [stN]
  rw [getD_set' (by rw [stN_len]; omega), stN_at (n := n) (by omega)]
  by_cases e : k = n
  ·
   subst e; simp
  ·
   by_cases e2 : k < n
   ·
    rw [if_neg e, if_pos e2, if_pos (by omega)]
   ·
    rw [if_neg e, if_neg e2, if_neg (by omega)]
def oneR (r : PRules) (m : PMat) : PRules := { r with slo := m.stress, shi := m.stress, flo := m.friction, fhi := m.friction, hlo := m.heat, hhi := m.heat, stands := stN r.stands m.losses r.stands.length }
structure MatOk (r : PRules) (m : PMat) : Prop where
 st : r.slo ≤ m.stress ∧ m.stress ≤ r.shi
 fr : r.flo ≤ m.friction ∧ m.friction ≤ r.fhi
 ht : r.hlo ≤ m.heat ∧ m.heat ≤ r.hhi
 len : m.losses.length = r.stands.length
 los : ∀ k, k < m.losses.length → (r.stands.getD k default).llo ≤ m.losses.getD k 0 ∧ m.losses.getD k 0 ≤ (r.stands.getD k default).lhi
def sumM (ls : List Int) : Nat → Int
 | 0 => 0
 | i + 1 => sumM ls i + ls.getD i 0
theorem sum_one {r : PRules} {m : PMat} : ∀ {n : Nat}, n ≤ r.stands.length → sumT (oneR r m).stands n = (sumM m.losses n, sumM m.losses n)
 | 0, _ => rfl
 | n + 1, h => by
  simp only [sumT, sumM]
  rw [sum_one (by omega), show (oneR r m).stands = stN r.stands m.losses r.stands.length from rfl, stN_at (Nat.le_refl _), if_pos (by omega)]
  rfl
def matW (r : PRules) (s : PSched) (m : PMat) (k : Nat) : Int := warmV r.start (s.ths.getD k 0) m.heat (sumM m.losses (k + 1)) m.stress
end Go.Vm

namespace Go.Vm
open Go.Proofs
theorem fc_mono {w b a st fr st' fr' : Int} (hw : 0 ≤ w) (hle : a ≤ b) (hb : 0 ≤ b + a) (h1 : st ≤ st') (h2 : fr ≤ fr') : fcV w b a st fr ≤ fcV w b a st' fr' := by
 unfold fcV
 split
 ·
  exact Int.le_refl _
 ·
  have p1 := Int.mul_le_mul_of_nonneg_right h1 (show 0 ≤ b - a by omega)
  have p2 := Int.mul_le_mul_of_nonneg_right h2 hb
  exact Int.mul_le_mul_of_nonneg_left (by omega) hw
theorem gr_mono {rad b a fr fr' : Int} (hr : 0 ≤ rad) (h : fr ≤ fr') : gripV rad b a fr ≤ gripV rad b a fr' := by
 unfold gripV
 split
 ·
  exact Int.le_refl _
 ·
  have p := Int.mul_le_mul_of_nonneg_right h hr
  omega
theorem wm_mono {start a h h' l l' st st' : Int} (ha : a ≤ start) (h1 : h ≤ h') (h2 : l' ≤ l) (h3 : st ≤ st') : warmV start a h l st ≤ warmV start a h' l' st' := by
 unfold warmV
 have p := Int.mul_le_mul_of_nonneg_right h3 (show 0 ≤ start - a by omega)
 omega
theorem sumM_le {r : PRules} {m : PMat} (hm : MatOk r m) : ∀ {n : Nat}, n ≤ r.stands.length → (sumT r.stands n).1 ≤ sumM m.losses n ∧ sumM m.losses n ≤ (sumT r.stands n).2
 | 0, _ => by simp [sumT, sumM]
 | n + 1, h => by
  have h1 := sumM_le hm (n := n) (by omega)
  have h2 := hm.los n (by rw [hm.len]; omega)
  simp only [sumT, sumM]
  omega
theorem one_len {r : PRules} {m : PMat} : (oneR r m).stands.length = r.stands.length := by
 rw [show (oneR r m).stands = stN r.stands m.losses r.stands.length from rfl, stN_len]
theorem one_at {r : PRules} {m : PMat} {k : Nat} (hk : k < r.stands.length) : (oneR r m).stands.getD k default = oneS (r.stands.getD k default) (m.losses.getD k 0) := by
 rw [show (oneR r m).stands = stN r.stands m.losses r.stands.length from rfl, stN_at (Nat.le_refl _), if_pos hk]
theorem LS_at {r : PRules} {k : Nat} (hk : k < r.stands.length) : (LS r).getD k default = sumT r.stands (k + 1) := by
 unfold LS; rw [lossL_at hk]
theorem bef_one {r : PRules} {m : PMat} {s : PSched} {k : Nat} : befV (oneR r m) s k = befV r s k := rfl
theorem marS_one {r : PRules} {m : PMat} {s : PSched} {k : Nat} (hkr : k < r.stands.length) : marS (oneR r m) s k = [((r.stands.getD k default).force - fcV r.width (befV r s k) (s.ths.getD k 0) m.stress m.friction, (r.stands.getD k default).force - fcV r.width (befV r s k) (s.ths.getD k 0) m.stress m.friction),
   ((r.stands.getD k default).torque - fcV r.width (befV r s k) (s.ths.getD k 0) m.stress m.friction * (befV r s k - s.ths.getD k 0), (r.stands.getD k default).torque - fcV r.width (befV r s k) (s.ths.getD k 0) m.stress m.friction * (befV r s k - s.ths.getD k 0)),
   (gripV (r.stands.getD k default).rad (befV r s k) (s.ths.getD k 0) m.friction, gripV (r.stands.getD k default).rad (befV r s k) (s.ths.getD k 0) m.friction),
   (matW r s m k - r.cold * 100, matW r s m k - r.cold * 100)] := by
 unfold marS marL mF mT mB mC
 rw [bef_one, one_at hkr, LS_at (by rw [one_len]; exact hkr), sum_one (by omega)]
 rfl
theorem one_between {r : PRules} {m : PMat} {s : PSched} {k j : Nat} (hr : RulOk r) (hm : MatOk r m) (hS : SchOk r s) (hk : k < s.ths.length) (hj : j < 4) :
  ((marS r s k).getD j default).1 ≤ ((marS (oneR r m) s k).getD j default).1 ∧ ((marS (oneR r m) s k).getD j default).1 = ((marS (oneR r m) s k).getD j default).2 ∧ ((marS (oneR r m) s k).getD j default).2 ≤ ((marS r s k).getD j default).2 := by
 have hd := dr_ok hr hS hk
 have hlen := hS.len
 have hkr : k < r.stands.length := by omega
 have d1 : 1 ≤ befV r s k ∧ befV r s k ≤ 1000 := hd.b
 have d2 : 1 ≤ s.ths.getD k 0 ∧ s.ths.getD k 0 ≤ 1000 := hd.a
 have d3 : s.ths.getD k 0 ≤ befV r s k := hd.le
 have d4 := th_start hS hk
 have hw := hr.width
 have hstd := (hr.std k hkr).rad
 have m1 := hm.st
 have m2 := hm.fr
 have m3 := hm.ht
 have m4 := sumM_le hm (n := k + 1) (by omega)
 have f1 := fc_mono (w := r.width) (b := befV r s k) (a := s.ths.getD k 0) (by omega) d3 (by omega) m1.1 m2.1
 have f2 := fc_mono (w := r.width) (b := befV r s k) (a := s.ths.getD k 0) (by omega) d3 (by omega) m1.2 m2.2
 have t1 := Int.mul_le_mul_of_nonneg_right f1 (show 0 ≤ befV r s k - s.ths.getD k 0 by omega)
 have t2 := Int.mul_le_mul_of_nonneg_right f2 (show 0 ≤ befV r s k - s.ths.getD k 0 by omega)
 have e1 := marS_one (s := s) (m := m) hkr
 have e2 : marS r s k = [mF r k (befV r s k) (s.ths.getD k 0), mT r k (befV r s k) (s.ths.getD k 0), mB r k (befV r s k) (s.ths.getD k 0), mC r (sumT r.stands (k + 1)) (s.ths.getD k 0)] := by
  unfold marS marL; rw [LS_at hkr]
 rw [e1, e2]
 match j, hj with
 | 0, _ => simp only [List.getD_cons_zero, mF, true_and]; omega
 | 1, _ => simp only [List.getD_cons_zero, List.getD_cons_succ, mT, true_and]; omega
 | 2, _ =>
  simp only [List.getD_cons_zero, List.getD_cons_succ, mB, true_and]
  exact ⟨gr_mono (by omega) m2.1, gr_mono (by omega) m2.2⟩
 | 3, _ =>
  simp only [List.getD_cons_zero, List.getD_cons_succ, mC, matW, true_and]
  have w1 := wm_mono (start := r.start) (a := s.ths.getD k 0) d4 m3.1 m4.2 m1.1
  have w2 := wm_mono (start := r.start) (a := s.ths.getD k 0) d4 m3.2 m4.1 m1.2
  omega
theorem margs_mem {r : PRules} {s : PSched} {n : Nat} {p : Int × Int} (h : p ∈ margs r s n) : ∃ k j, k < n ∧ j < 4 ∧ p = (marS r s k).getD j default := by
 unfold margs at h
 obtain ⟨k, hk, h⟩ := List.mem_flatMap.1 h
 obtain ⟨j, hj, rfl⟩ := List.getElem_of_mem h
 refine ⟨k, j, List.mem_range.1 hk, by rw [marS_len] at hj; exact hj, ?_⟩
 simp [List.getD_eq_getElem?_getD, List.getElem?_eq_getElem hj]
theorem low_false {M : List (Int × Int)} (h : ∀ p ∈ M, 0 ≤ p.1) : lowQ M = false := by
 unfold lowQ; rw [List.any_eq_false]; intro p hp; have := h p hp; simp; exact this
theorem low_true {M : List (Int × Int)} {p : Int × Int} (h : p ∈ M) (hp : p.1 < 0) : lowQ M = true := List.any_eq_true.2 ⟨p, h, by simpa using hp⟩
theorem ans_two {M : List (Int × Int)} : ansV M = 2 ↔ ∀ p ∈ M, 0 ≤ p.1 ∧ 0 ≤ p.2 := by
 unfold ansV ansP
 constructor
 ·
  intro h
  split at h
  ·
   cases h
  ·
   rename_i h1
   split at h
   ·
    cases h
   ·
    rename_i h2
    intro p hp
    refine ⟨?_, ?_⟩
    ·
     exact Classical.byContradiction fun hn => h2 (low_true hp (by omega))
    ·
     exact Classical.byContradiction fun hn => h1 (List.any_eq_true.2 ⟨p, hp, by simp; omega⟩)
 ·
  intro h
  rw [if_neg, if_neg]
  ·
   rw [low_false fun p hp => (h p hp).1]; simp
  ·
   rw [List.any_eq_true]
   rintro ⟨p, hp, hq⟩
   have := (h p hp).2
   simp at hq; omega
end Go.Vm
