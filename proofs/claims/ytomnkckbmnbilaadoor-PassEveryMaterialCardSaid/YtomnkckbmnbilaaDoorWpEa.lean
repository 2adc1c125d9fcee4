import Derived.Test.YtomnkckbmnbilaaDoorWpY
set_option linter.all false
/- A material lies between the ends: plain. -/
namespace Go.Vm
open Go.Proofs
theorem fc_mono {w b a st fr st' fr' : Int} (hw : 0 ≤ w) (hle : a ≤ b) (hb : 0 ≤ b + a) (h1 : st ≤ st') (h2 : fr ≤ fr') : fcV w b a st fr ≤ fcV w b a st' fr' := by
  unfold fcV
  split
  · exact Int.le_refl _
  · have p1 := Int.mul_le_mul_of_nonneg_right h1 (show 0 ≤ b - a by omega)
    have p2 := Int.mul_le_mul_of_nonneg_right h2 hb
    exact Int.mul_le_mul_of_nonneg_left (by omega) hw
theorem gr_mono {rad b a fr fr' : Int} (hr : 0 ≤ rad) (h : fr ≤ fr') : gripV rad b a fr ≤ gripV rad b a fr' := by
  unfold gripV
  split
  · exact Int.le_refl _
  · have p := Int.mul_le_mul_of_nonneg_right h hr
    omega
theorem wm_mono {start a h h' l l' st st' : Int} (ha : a ≤ start) (h1 : h ≤ h') (h2 : l' ≤ l) (h3 : st ≤ st') : warmV start a h l st ≤ warmV start a h' l' st' := by
  unfold warmV
  have p := Int.mul_le_mul_of_nonneg_right h3 (show 0 ≤ start - a by omega)
  omega
theorem sumM_le {r : PRules} {m : PMat} (hm : MatOk r m) : ∀ {n : Nat}, n ≤ r.stands.length → (sumT r.stands n).1 ≤ sumM m.losses n ∧ sumM m.losses n ≤ (sumT r.stands n).2
  | 0, _ => by simp [sumT, sumM]
  | n + 1, h => by
    have h1 := sumM_le hm (n := n) (by omega)
    have h2 := hm.los n (by rw [hm.len]; omega)
    simp only [sumT, sumM]
    omega
theorem one_len {r : PRules} {m : PMat} : (oneR r m).stands.length = r.stands.length := by
  rw [show (oneR r m).stands = stN r.stands m.losses r.stands.length from rfl, stN_len]
theorem one_at {r : PRules} {m : PMat} {k : Nat} (hk : k < r.stands.length) : (oneR r m).stands.getD k default = oneS (r.stands.getD k default) (m.losses.getD k 0) := by
  rw [show (oneR r m).stands = stN r.stands m.losses r.stands.length from rfl, stN_at (Nat.le_refl _), if_pos hk]
theorem LS_at {r : PRules} {k : Nat} (hk : k < r.stands.length) : (LS r).getD k default = sumT r.stands (k + 1) := by
  unfold LS; rw [lossL_at hk]
theorem bef_one {r : PRules} {m : PMat} {s : PSched} {k : Nat} : befV (oneR r m) s k = befV r s k := rfl
theorem marS_one {r : PRules} {m : PMat} {s : PSched} {k : Nat} (hkr : k < r.stands.length) : marS (oneR r m) s k = [((r.stands.getD k default).force - fcV r.width (befV r s k) (s.ths.getD k 0) m.stress m.friction, (r.stands.getD k default).force - fcV r.width (befV r s k) (s.ths.getD k 0) m.stress m.friction),
      ((r.stands.getD k default).torque - fcV r.width (befV r s k) (s.ths.getD k 0) m.stress m.friction * (befV r s k - s.ths.getD k 0), (r.stands.getD k default).torque - fcV r.width (befV r s k) (s.ths.getD k 0) m.stress m.friction * (befV r s k - s.ths.getD k 0)),
      (gripV (r.stands.getD k default).rad (befV r s k) (s.ths.getD k 0) m.friction, gripV (r.stands.getD k default).rad (befV r s k) (s.ths.getD k 0) m.friction),
      (matW r s m k - r.cold * 100, matW r s m k - r.cold * 100)] := by
  unfold marS marL mF mT mB mC
  rw [bef_one, one_at hkr, LS_at (by rw [one_len]; exact hkr), sum_one (by omega)]
  rfl
theorem one_between {r : PRules} {m : PMat} {s : PSched} {k j : Nat} (hr : RulOk r) (hm : MatOk r m) (hS : SchOk r s) (hk : k < s.ths.length) (hj : j < 4) :
    ((marS r s k).getD j default).1 ≤ ((marS (oneR r m) s k).getD j default).1 ∧ ((marS (oneR r m) s k).getD j default).1 = ((marS (oneR r m) s k).getD j default).2 ∧ ((marS (oneR r m) s k).getD j default).2 ≤ ((marS r s k).getD j default).2 := by
  have hd := dr_ok hr hS hk
  have hlen := hS.len
  have hkr : k < r.stands.length := by omega
  have d1 : 1 ≤ befV r s k ∧ befV r s k ≤ 1000 := hd.b
  have d2 : 1 ≤ s.ths.getD k 0 ∧ s.ths.getD k 0 ≤ 1000 := hd.a
  have d3 : s.ths.getD k 0 ≤ befV r s k := hd.le
  have d4 := th_start hS hk
  have hw := hr.width
  have hstd := (hr.std k hkr).rad
  have m1 := hm.st
  have m2 := hm.fr
  have m3 := hm.ht
  have m4 := sumM_le hm (n := k + 1) (by omega)
  have f1 := fc_mono (w := r.width) (b := befV r s k) (a := s.ths.getD k 0) (by omega) d3 (by omega) m1.1 m2.1
  have f2 := fc_mono (w := r.width) (b := befV r s k) (a := s.ths.getD k 0) (by omega) d3 (by omega) m1.2 m2.2
  have t1 := Int.mul_le_mul_of_nonneg_right f1 (show 0 ≤ befV r s k - s.ths.getD k 0 by omega)
  have t2 := Int.mul_le_mul_of_nonneg_right f2 (show 0 ≤ befV r s k - s.ths.getD k 0 by omega)
  have e1 := marS_one (s := s) (m := m) hkr
  have e2 : marS r s k = [mF r k (befV r s k) (s.ths.getD k 0), mT r k (befV r s k) (s.ths.getD k 0), mB r k (befV r s k) (s.ths.getD k 0), mC r (sumT r.stands (k + 1)) (s.ths.getD k 0)] := by
    unfold marS marL; rw [LS_at hkr]
  rw [e1, e2]
  match j, hj with
  | 0, _ => simp only [List.getD_cons_zero, mF, true_and]; omega
  | 1, _ => simp only [List.getD_cons_zero, List.getD_cons_succ, mT, true_and]; omega
  | 2, _ =>
    simp only [List.getD_cons_zero, List.getD_cons_succ, mB, true_and]
    exact ⟨gr_mono (by omega) m2.1, gr_mono (by omega) m2.2⟩
  | 3, _ =>
    simp only [List.getD_cons_zero, List.getD_cons_succ, mC, matW, true_and]
    have w1 := wm_mono (start := r.start) (a := s.ths.getD k 0) d4 m3.1 m4.2 m1.1
    have w2 := wm_mono (start := r.start) (a := s.ths.getD k 0) d4 m3.2 m4.1 m1.2
    omega
theorem margs_mem {r : PRules} {s : PSched} {n : Nat} {p : Int × Int} (h : p ∈ margs r s n) : ∃ k j, k < n ∧ j < 4 ∧ p = (marS r s k).getD j default := by
  unfold margs at h
  obtain ⟨k, hk, h⟩ := List.mem_flatMap.1 h
  obtain ⟨j, hj, rfl⟩ := List.getElem_of_mem h
  refine ⟨k, j, List.mem_range.1 hk, by rw [marS_len] at hj; exact hj, ?_⟩
  simp [List.getD_eq_getElem?_getD, List.getElem?_eq_getElem hj]
theorem low_false {M : List (Int × Int)} (h : ∀ p ∈ M, 0 ≤ p.1) : lowQ M = false := by
  unfold lowQ; rw [List.any_eq_false]; intro p hp; have := h p hp; simp; exact this
theorem low_true {M : List (Int × Int)} {p : Int × Int} (h : p ∈ M) (hp : p.1 < 0) : lowQ M = true := List.any_eq_true.2 ⟨p, h, by simpa using hp⟩
theorem low_iff {M : List (Int × Int)} : lowQ M = true ↔ ∃ p ∈ M, p.1 < 0 := by unfold lowQ; rw [List.any_eq_true]; simp
theorem ans_two {M : List (Int × Int)} : ansV M = 2 ↔ ∀ p ∈ M, 0 ≤ p.1 ∧ 0 ≤ p.2 := by
  unfold ansV ansP
  constructor
  · intro h
    split at h
    · cases h
    · rename_i h1
      split at h
      · cases h
      · rename_i h2
        intro p hp
        refine ⟨?_, ?_⟩
        · exact Classical.byContradiction fun hn => h2 (low_true hp (by omega))
        · exact Classical.byContradiction fun hn => h1 (List.any_eq_true.2 ⟨p, hp, by simp; omega⟩)
  · intro h
    rw [if_neg, if_neg]
    · rw [low_false fun p hp => (h p hp).1]; simp
    · rw [List.any_eq_true]
      rintro ⟨p, hp, hq⟩
      have := (h p hp).2
      simp at hq; omega
theorem ans_zero {M : List (Int × Int)} : ansV M = 0 ↔ ∃ p ∈ M, p.2 < 0 := by
  unfold ansV ansP
  constructor
  · intro h
    split at h
    · rename_i h1
      obtain ⟨p, hp, hq⟩ := List.any_eq_true.1 h1
      exact ⟨p, hp, by simpa using hq⟩
    · split at h <;> cases h
  · rintro ⟨p, hp, hq⟩
    rw [if_pos (List.any_eq_true.2 ⟨p, hp, by simpa using hq⟩)]
theorem yes_keeps {r : PRules} {m : PMat} {s : PSched} (hr : RulOk r) (hm : MatOk r m) (hS : SchOk r s) (h : ansV (margs r s s.ths.length) = 2) : keepV r s m s.ths.length = true := by
  unfold keepV
  rw [low_false]; · rfl
  intro p hp
  obtain ⟨k, j, hk, hj, rfl⟩ := margs_mem hp
  have h1 := one_between hr hm hS hk hj
  have h2 := (ans_two.1 h _ (mem_margs hk hj)).1
  omega
theorem no_keeps {r : PRules} {m : PMat} {s : PSched} (hr : RulOk r) (hm : MatOk r m) (hS : SchOk r s) (h : ansV (margs r s s.ths.length) = 0) : keepV r s m s.ths.length = false := by
  obtain ⟨p, hp, hq⟩ := ans_zero.1 h
  obtain ⟨k, j, hk, hj, rfl⟩ := margs_mem hp
  have h1 := one_between hr hm hS hk hj
  unfold keepV
  rw [low_true (mem_margs hk hj) (by omega)]; rfl
theorem alone_ans {r : PRules} {m : PMat} {s : PSched} (hr : RulOk r) (hm : MatOk r m) (hS : SchOk r s) : ansV (margs (oneR r m) s s.ths.length) = if keepV r s m s.ths.length = true then 2 else 0 := by
  split
  · rename_i h
    unfold keepV at h
    rw [ans_two]
    intro p hp
    obtain ⟨k, j, hk, hj, rfl⟩ := margs_mem hp
    have h1 := one_between hr hm hS hk hj
    have h2 : 0 ≤ ((marS (oneR r m) s k).getD j default).1 := Classical.byContradiction fun hn => by rw [low_true hp (by omega)] at h; cases h
    omega
  · rename_i h
    unfold keepV at h
    have h' : lowQ (margs (oneR r m) s s.ths.length) = true := by simpa using h
    obtain ⟨p, hp, hq⟩ := low_iff.1 h'
    obtain ⟨k, j, hk, hj, rfl⟩ := margs_mem hp
    have h1 := one_between hr hm hS hk hj
    rw [ans_zero]
    exact ⟨_, hp, by omega⟩
def widS (s : PStand) : PStand := { s with force := 1000000000000, torque := 1000000000000 }
def wdN (st : List PStand) : Nat → List PStand
  | 0 => st
  | n + 1 => (wdN st n).set n (widS (st.getD n default))
theorem wdN_len {st : List PStand} : ∀ {n : Nat}, (wdN st n).length = st.length
  | 0 => rfl
  | n + 1 => by simp only [wdN, List.length_set]; exact wdN_len
theorem wdN_at {st : List PStand} : ∀ {n k : Nat}, n ≤ st.length → (wdN st n).getD k default = if k < n then widS (st.getD k default) else st.getD k default
  | 0, k, _ => by simp [wdN]
  | n + 1, k, h => by
    simp only [wdN]
    rw [getD_set' (by rw [wdN_len]; omega), wdN_at (n := n) (by omega)]
    by_cases e : k = n
    · subst e; simp
    · by_cases e2 : k < n
      · rw [if_neg e, if_pos e2, if_pos (by omega)]
      · rw [if_neg e, if_neg e2, if_neg (by omega)]
def widR (r : PRules) : PRules := { r with cold := 0, stands := wdN r.stands r.stands.length }
theorem wid_st {r : PRules} : (widR r).stands = wdN r.stands r.stands.length := rfl
theorem wid_len {r : PRules} : (widR r).stands.length = r.stands.length := by rw [wid_st, wdN_len]
theorem wid_at {r : PRules} {k : Nat} (hk : k < r.stands.length) : (widR r).stands.getD k default = widS (r.stands.getD k default) := by
  rw [wid_st, wdN_at (Nat.le_refl _), if_pos hk]
theorem wid_ok {r : PRules} (hr : RulOk r) : RulOk (widR r) :=
  { width := hr.width, start := hr.start, finish := hr.finish, hlo := hr.hlo, hhi := hr.hhi, cold := (by show (0:Int) ≤ 0 ∧ (0:Int) ≤ 20000; omega), slo := hr.slo, shi := hr.shi, flo := hr.flo, fhi := hr.fhi
    fs := hr.fs, hle := hr.hle, sle := hr.sle, fle := hr.fle, len := by rw [wid_len]; exact hr.len
    std := fun i hi => by
      rw [wid_len] at hi
      rw [wid_at hi]
      have hs := hr.std i hi
      exact ⟨hs.rad, by show (0:Int) ≤ 1000000000000 ∧ (1000000000000:Int) ≤ 1000000000000; omega, by show (0:Int) ≤ 1000000000000 ∧ (1000000000000:Int) ≤ 1000000000000; omega, hs.llo, hs.lhi, hs.le⟩ }
theorem sch_wid {r : PRules} {s : PSched} (hS : SchOk r s) : SchOk (widR r) s := ⟨hS.name, by rw [wid_len]; exact hS.len, hS.th, hS.last⟩
theorem sum_wid {r : PRules} : ∀ {n : Nat}, n ≤ r.stands.length → sumT (widR r).stands n = sumT r.stands n
  | 0, _ => rfl
  | n + 1, h => by
    simp only [sumT]
    rw [sum_wid (by omega), wid_at (by omega)]
    rfl
theorem wid_ge {r : PRules} {s : PSched} {k j : Nat} (hr : RulOk r) (hk : k < r.stands.length) (hj : j < 4) :
    ((marS r s k).getD j default).1 ≤ ((marS (widR r) s k).getD j default).1 ∧ ((marS r s k).getD j default).2 ≤ ((marS (widR r) s k).getD j default).2 := by
  have hs := hr.std k hk
  have h1 := hs.force
  have h2 := hs.torque
  have h3 := hr.cold
  have e1 : marS (widR r) s k = [(1000000000000 - fcV r.width (befV r s k) (s.ths.getD k 0) r.shi r.fhi, 1000000000000 - fcV r.width (befV r s k) (s.ths.getD k 0) r.slo r.flo),
      (1000000000000 - fcV r.width (befV r s k) (s.ths.getD k 0) r.shi r.fhi * (befV r s k - s.ths.getD k 0), 1000000000000 - fcV r.width (befV r s k) (s.ths.getD k 0) r.slo r.flo * (befV r s k - s.ths.getD k 0)),
      mB r k (befV r s k) (s.ths.getD k 0),
      (warmV r.start (s.ths.getD k 0) r.hlo (sumT r.stands (k + 1)).2 r.slo - 0 * 100, warmV r.start (s.ths.getD k 0) r.hhi (sumT r.stands (k + 1)).1 r.shi - 0 * 100)] := by
    unfold marS marL mF mT mB mC
    rw [wid_at hk, LS_at (by rw [wid_len]; exact hk), sum_wid (by omega)]
    rfl
  have e2 : marS r s k = [mF r k (befV r s k) (s.ths.getD k 0), mT r k (befV r s k) (s.ths.getD k 0), mB r k (befV r s k) (s.ths.getD k 0), mC r (sumT r.stands (k + 1)) (s.ths.getD k 0)] := by
    unfold marS marL; rw [LS_at hk]
  rw [e1, e2]
  match j, hj with
  | 0, _ => simp only [List.getD_cons_zero, mF]; omega
  | 1, _ => simp only [List.getD_cons_zero, List.getD_cons_succ, mT]; omega
  | 2, _ => simp only [List.getD_cons_zero, List.getD_cons_succ]; omega
  | 3, _ => simp only [List.getD_cons_zero, List.getD_cons_succ, mC]; omega
theorem wid_yes {r : PRules} {s : PSched} (hr : RulOk r) (hS : SchOk r s) (h : ansV (margs r s s.ths.length) = 2) : ansV (margs (widR r) s s.ths.length) = 2 := by
  rw [ans_two] at h ⊢
  intro p hp
  obtain ⟨k, j, hk, hj, rfl⟩ := margs_mem hp
  have h1 := wid_ge (s := s) hr (show k < r.stands.length by rw [← hS.len]; exact hk) hj
  have h2 := h _ (mem_margs hk hj)
  omega
theorem stdE_conv {s : PStand} (h : StdOk s) : stdE s = 0 := by
  have c1 : stdR s = true := by
    simp only [stdR, Bool.and_eq_true, wi2]
    exact ⟨⟨⟨h.rad, h.force⟩, h.torque⟩, h.llo, h.lhi⟩
  unfold stdE
  simp only [c1, h.le, decide_true, if_true, firstV_cons, firstV_nil]
theorem standsE_conv : ∀ {l : List PStand} {i : Int}, (∀ k, k < l.length → StdOk (l.getD k default)) → standsE i l = (0, 0)
  | [], _, _ => rfl
  | s :: l, i, h => by
    have h0 : stdE s = 0 := stdE_conv (by simpa using h 0 (by simp))
    simp only [standsE]
    rw [if_pos h0]
    exact standsE_conv fun k hk => by simpa using h (k + 1) (by simpa using hk)
theorem rul_conv {r : PRules} (h : RulOk r) : (rulesE r).2 = 0 := by
  have c1 : headR r = true := by
    simp only [headR, Bool.and_eq_true, wi2]
    exact ⟨⟨⟨⟨⟨⟨h.width, h.start⟩, h.finish⟩, h.hlo, h.hhi⟩, h.cold⟩, h.slo, h.shi⟩, h.flo, h.fhi⟩
  have c2 : headO r = true := by
    simp only [headO, Bool.and_eq_true, decide_eq_true_eq]
    exact ⟨h.fs, ⟨h.hle, h.sle⟩, h.fle⟩
  have hl := h.len
  have c3 : (r.stands.length : Int) > 0 := by omega
  have c4 : (r.stands.length : Int) ≤ 6 := by omega
  have h0 : headE r = 0 := by
    unfold headE
    simp only [c1, c2, c3, c4, decide_true, if_true, firstV_cons, firstV_nil]
  rw [rulesE0 h0, standsE_conv h.std]
theorem sch_same {r r' : PRules} {s : PSched} (h1 : r'.start = r.start) (h2 : r'.finish = r.finish) (h3 : r'.stands.length = r.stands.length) : schE r' s = schE r s := by
  unfold schE schH
  rw [h1, h2, h3]
theorem both_conv {r r' : PRules} {s : PSched} (hr : RulOk r') (h1 : r'.start = r.start) (h2 : r'.finish = r.finish) (h3 : r'.stands.length = r.stands.length) (hB : (bothE r s).2 = 0) : (bothE r' s).2 = 0 := by
  rw [bothE0 (rul_conv hr), sch_same h1 h2 h3]
  by_cases c : (rulesE r).2 = 0
  · rw [bothE0 c] at hB; exact hB
  · rw [bothE1 c] at hB; exact (c hB).elim
end Go.Vm
