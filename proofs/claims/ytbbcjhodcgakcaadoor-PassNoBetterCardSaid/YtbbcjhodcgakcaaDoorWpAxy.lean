import Derived.Test.YtbbcjhodcgakcaaDoorWpAz
import Derived.Test.YtbbcjhodcgakcaaDoorWpAc
import Derived.Test.YtbbcjhodcgakcaaDoorWpYz
set_option linter.all false
namespace Go.Vm
open Go.Proofs
section
variable {r : PRules} {T : List Int} {F F' : D3 → Int} {s : PSched} {g : Int}
theorem way_any : ∀ {j i : Nat} {c : Int}, Way r T F j i c → ∃ c', Way r T F' j i c'
 | 0, i, c, ⟨h, _⟩ => ⟨0, h, rfl⟩
 | j + 1, i, c, ⟨q, c', h1, h2, _⟩ => by
  obtain ⟨d, h⟩ := way_any h2
  exact ⟨_, q, d, h1, h, rfl⟩
theorem best_iff (hL : GL r T) (hn : r.stands.length ≤ 6) (hF : ∀ (k i j : Nat), i ≤ j → j < T.length → 0 ≤ F ((k : Int), T.getD i 0, T.getD j 0) ∧ F ((k : Int), T.getD i 0, T.getD j 0) ≤ 1000000000000) : bestE r T F = 0 ↔ ∃ c, Way r T F r.stands.length 0 c := by
 have hK : ∀ k p, p ∈ setK r T k allN → 0 ≤ cstK T F k p ∧ cstK T F k p ≤ 1000000000000 := fun k p hp => hF k p.1 p.2 (setK_mem.1 hp).1 (setK_mem.1 hp).2.1
 unfold bestE
 constructor
 ·
  intro h
  by_cases c : (ahJ r T F r.stands.length).getD 0 0 < nev
  ·
   exact ⟨_, ah_way (fun k p hp => (hK k p hp).1) hL.ne c⟩
  ·
   rw [if_neg c] at h; cases h
 ·
  rintro ⟨c, h⟩
  have h1 := ah_le hL.ne h
  have h2 := way_bound hK h
  rw [if_pos]
  show _ < (1000000000000000 : Int)
  omega
theorem best_12 (h : bestE r T F ≠ 0) : bestE r T F = 12 := by
 unfold bestE at h ⊢
 split
 ·
  rename_i c; rw [if_pos c] at h; exact (h rfl).elim
 ·
  rfl
theorem nx_fold2 {k at' : Nat} : ∀ {l : List (Nat × Nat)} {x : Nat}, (∃ p ∈ l, p.1 = at' ∧ cstK T F k p + (ahJ r T F (r.stands.length - (k + 1))).getD p.2 0 = (ahJ r T F (r.stands.length - k)).getD at' 0) →
  ∃ p ∈ l, (p.1 = at' ∧ cstK T F k p + (ahJ r T F (r.stands.length - (k + 1))).getD p.2 0 = (ahJ r T F (r.stands.length - k)).getD at' 0) ∧ l.foldl (nxS r T F k at') x = p.2
 | [], _, ⟨p, hp, _⟩ => by cases hp
 | q :: l, x, ⟨p, hp, h⟩ => by
  rw [List.foldl_cons]
  by_cases e : ∃ p ∈ l, p.1 = at' ∧ cstK T F k p + (ahJ r T F (r.stands.length - (k + 1))).getD p.2 0 = (ahJ r T F (r.stands.length - k)).getD at' 0
  ·
   obtain ⟨p', h1, h2, h3⟩ := nx_fold2 (x := nxS r T F k at' x q) e
   exact ⟨p', by simp [h1], h2, h3⟩
  ·
   rcases List.mem_cons.1 hp with rfl | hp
   ·
    refine ⟨p, by simp, h, ?_⟩
    have hx : nxS r T F k at' x p = p.2 := by unfold nxS; rw [if_pos h]
    rw [hx]
    have : ∀ (l : List (Nat × Nat)) (y : Nat), (¬ ∃ p ∈ l, p.1 = at' ∧ cstK T F k p + (ahJ r T F (r.stands.length - (k + 1))).getD p.2 0 = (ahJ r T F (r.stands.length - k)).getD at' 0) → l.foldl (nxS r T F k at') y = y := by
     intro l
     induction l with
     | nil => intro y _; rfl
     | cons z l ih =>
      intro y hn
      rw [List.foldl_cons]
      have : nxS r T F k at' y z = y := by
       unfold nxS; rw [if_neg]; exact fun hz => hn ⟨z, by simp, hz⟩
      rw [this]
      exact ih y fun ⟨w, hw, hw2⟩ => hn ⟨w, by simp [hw], hw2⟩
    exact this l p.2 e
   ·
    exact (e ⟨p, hp, h⟩).elim
theorem ch_step (hF : ∀ k p, p ∈ setK r T k allN → 0 ≤ cstK T F k p) {k at' : Nat} (hk : k < r.stands.length) (ha : at' < T.length) (h : (ahJ r T F (r.stands.length - k)).getD at' 0 < nev) {x : Nat} :
  ∃ p ∈ setK r T k allN, p.1 = at' ∧ cstK T F k p + (ahJ r T F (r.stands.length - (k + 1))).getD p.2 0 = (ahJ r T F (r.stands.length - k)).getD at' 0 ∧ (setK r T k allN).foldl (nxS r T F k at') x = p.2 := by
 have hex : ∃ p ∈ setK r T k allN, p.1 = at' ∧ cstK T F k p + (ahJ r T F (r.stands.length - (k + 1))).getD p.2 0 = (ahJ r T F (r.stands.length - k)).getD at' 0 := by
  obtain ⟨m, hm⟩ : ∃ m, r.stands.length - k = m + 1 := ⟨r.stands.length - k - 1, by omega⟩
  have em : r.stands.length - (k + 1) = m := by omega
  have ek : r.stands.length - 1 - m = k := by omega
  rw [hm, em]
  rw [hm] at h
  simp only [ahJ, ek] at h ⊢
  obtain ⟨_, _, h3⟩ := fold_at (T := T) (F := F) (k := k) (nxt := ahJ r T F m) (i := at') (l := setK r T k allN) (row := List.replicate T.length nev) (by simpa using ha)
  unfold ahR at h ⊢
  rcases h3 with h3 | ⟨p, hp, hpi, h3⟩
  ·
   exfalso
   rw [h3, List.getD_eq_getElem?_getD, List.getElem?_replicate, if_pos ha] at h
   simp at h
  ·
   exact ⟨p, hp, hpi, h3.symm⟩
 obtain ⟨p, h1, h2, h3⟩ := nx_fold2 (x := x) hex
 exact ⟨p, h1, h2.1, h2.2, h3⟩
theorem ch_all (hL : GL r T) (hF : ∀ k p, p ∈ setK r T k allN → 0 ≤ cstK T F k p) (h0 : (ahJ r T F r.stands.length).getD 0 0 < nev) : ∀ {k : Nat}, k ≤ r.stands.length → (ahJ r T F (r.stands.length - k)).getD (chA r T F k) 0 < nev ∧
  ∀ i, i < k → (chA r T F i, chA r T F (i + 1)) ∈ setK r T i allN ∧ cstK T F i (chA r T F i, chA r T F (i + 1)) + (ahJ r T F (r.stands.length - (i + 1))).getD (chA r T F (i + 1)) 0 = (ahJ r T F (r.stands.length - i)).getD (chA r T F i) 0
 | 0, _ => ⟨h0, fun i hi => by omega⟩
 | k + 1, hk => by
  obtain ⟨h1, h2⟩ := ch_all hL hF h0 (k := k) (by omega)
  obtain ⟨p, p1, p2', p3, p4⟩ := ch_step hF (k := k) (by omega) (chA_lt hL.ne) h1 (x := chA r T F k)
  have hc : chA r T F (k + 1) = p.2 := p4
  have hp : p = (chA r T F k, chA r T F (k + 1)) := by rw [hc, ← p2']
  have h5 := hF k p p1
  refine ⟨by rw [hc]; omega, fun i hi => ?_⟩
  by_cases e : i = k
  ·
   subst e
   rw [← hp]
   exact ⟨p1, by rw [hc]; exact p3⟩
  ·
   exact h2 i (by omega)
theorem ch_last (hL : GL r T) (hF : ∀ k p, p ∈ setK r T k allN → 0 ≤ cstK T F k p) (h0 : (ahJ r T F r.stands.length).getD 0 0 < nev) : chA r T F r.stands.length = T.length - 1 := by
 have h := (ch_all hL hF h0 (Nat.le_refl r.stands.length)).1
 rw [Nat.sub_self] at h
 exact (ah_way hF (chA_lt hL.ne) h).1
end
end Go.Vm

namespace Go.Vm
open Go.Proofs
section
variable {r : PRules} {T : List Int} {F : D3 → Int} {s : PSched} {g : Int}
def onG (r : PRules) (s : PSched) (g : Int) : Bool := s.ths.all (gridP r g)
theorem onG_at (h : onG r s g = true) {k : Nat} (hk : k < s.ths.length) : gridP r g (s.ths.getD k 0) = true := List.all_eq_true.1 h _ (getD_mem hk)
theorem hold_ok (h : ansV (margs r s s.ths.length) = 2) {k : Nat} (hk : k < s.ths.length) : okS r k (befV r s k) (s.ths.getD k 0) allN = true := by
 rw [okS_iff]
 intro l hl
 have hl4 : l < 4 := by revert l; decide
 exact ((ans_two.1 h) _ (mem_margs hk hl4)).1
theorem th_fin (hS : SchOk r s) : ∀ {j k : Nat}, k + j + 1 = s.ths.length → r.finish ≤ s.ths.getD k 0
 | 0, k, h => by
  have := hS.last
  rw [show s.ths.length - 1 = k by omega] at this; omega
 | j + 1, k, h => by
  have h1 := th_fin hS (j := j) (k := k + 1) (by omega)
  have h2 := (hS.th (k + 1) (by omega)).2
  rw [bef_succ] at h2; omega
theorem th_in (hS : SchOk r s) (h : onG r s g = true) {k : Nat} (hk : k < s.ths.length) : inG r g (s.ths.getD k 0) :=
 ⟨th_fin hS (j := s.ths.length - k - 1) (by omega), th_start hS hk, onG_at h hk⟩
theorem bef_end (hr : RulOk r) (hS : SchOk r s) : befV r s s.ths.length = r.finish := by
 have h1 := hr.len
 have h2 := hS.len
 obtain ⟨m, hm⟩ : ∃ m, s.ths.length = m + 1 := ⟨s.ths.length - 1, by omega⟩
 have h3 := hS.last
 rw [hm] at h3 ⊢
 rw [bef_succ]; exact h3
theorem own_wt (hr : RulOk r) (hS : SchOk r s) (ho : onG r s g = true) (hh : ansV (margs r s s.ths.length) = 2) : ∀ {j k : Nat}, k + j = s.ths.length → WT r (inG r g) (enF r) j (befV r s k) (sumE r s s.ths.length - sumE r s k)
 | 0, k, h => by
  have e : k = s.ths.length := by omega
  subst e
  exact ⟨bef_end hr hS, by omega⟩
 | j + 1, k, h => by
  have hl := hS.len
  have hk : k < s.ths.length := by omega
  have w := own_wt hr hS ho hh (j := j) (k := k + 1) (by omega)
  rw [bef_succ] at w
  have ek : r.stands.length - 1 - j = k := by omega
  refine ⟨s.ths.getD k 0, _, th_in hS ho hk, (hS.th k hk).2, by rw [ek]; exact hold_ok hh hk, w, ?_⟩
  rw [ek]
  simp only [sumE, drV]
  omega
theorem grid_in : (fun h => h ∈ gridL r g) = inG r g := by funext h; exact propext mem_grid
theorem own_way (hr : RulOk r) (hS : SchOk r s) (ho : onG r s g = true) (hh : ansV (margs r s s.ths.length) = 2) : Way r (gridL r g) (enF r) r.stands.length 0 (sumE r s s.ths.length) := by
 have hL := grid_ok (g := g) hr
 have w := own_wt hr hS ho hh (j := s.ths.length) (k := 0) (by omega)
 rw [show sumE r s 0 = 0 from rfl, Int.sub_zero, show befV r s 0 = r.start from rfl, hS.len, ← grid_in, ← hL.fst] at w
 have := wt_way hL hL.ne w
 rwa [hS.len]
theorem coarse (hg : 1 ≤ g) {h : Int} (w : inG r (2 * g) h) : inG r g h := by
 obtain ⟨a, b, c⟩ := w
 refine ⟨a, b, ?_⟩
 unfold gridP at c ⊢
 simp only [Bool.or_eq_true, decide_eq_true_eq] at c ⊢
 rcases c with c | c
 ·
  exact Or.inl c
 ·
  refine Or.inr ?_
  have h1 : (2 * g) ∣ h := Int.dvd_of_tmod_eq_zero c
  exact Int.tmod_eq_zero_of_dvd (Int.dvd_trans (Int.dvd_mul_left 2 g) h1)
theorem coarse_way (hr : RulOk r) (hg : 1 ≤ g) {c : Int} (w : Way r (gridL r (2 * g)) F r.stands.length 0 c) : Way r (gridL r g) F r.stands.length 0 c := by
 have h1 := grid_ok (g := g) hr
 have h2 := grid_ok (g := 2 * g) hr
 have w2 := way_wt h2 w
 rw [grid_in] at w2
 have w3 := w2.mono (fun h => coarse hg)
 rw [← grid_in, h2.fst, ← h1.fst] at w3
 exact wt_way h1 h1.ne w3
theorem coarse_len (hr : RulOk r) (hg : 1 ≤ g) : (gridL r (2 * g)).length ≤ (gridL r g).length := by
 have e : gridL r (2 * g) = (gridL r g).filter (gridP r (2 * g)) := by
  unfold gridL gridN
  rw [List.filter_filter]
  refine List.filter_congr fun x hx => ?_
  obtain ⟨i, hi, rfl⟩ := List.mem_map.1 hx
  have := List.mem_range.1 hi
  cases c : gridP r (2 * g) (r.start - (i : Int)) with
  | false => rfl
  | true => rw [(coarse (r := r) hg ⟨by omega, by omega, c⟩).2.2]; rfl
 rw [e]; exact List.length_filter_le _ _
abbrev bestS (r : PRules) (T : List Int) : PSched := ⟨bestN, thsB r T (enF r) r.stands.length⟩
theorem thsB_at {n k : Nat} (hk : k < n) : (thsB r T F n).getD k 0 = T.getD (chA r T F (k + 1)) 0 := by simp [thsB, List.getD, hk]
theorem thsB_len {n : Nat} : (thsB r T F n).length = n := by simp [thsB]
theorem bestS_bef (hL : GL r T) {k : Nat} (hk : k ≤ r.stands.length) : befV r (bestS r T) k = T.getD (chA r T (enF r) k) 0 := by
 cases k with
 | zero => exact hL.fst.symm
 | succ k => rw [bef_succ]; exact thsB_at (by omega)
theorem best_len : (bestS r T).ths.length = r.stands.length := thsB_len
theorem bestN_ok : nameV bestN = true := by decide +kernel
theorem en_pos (hr : RulOk r) (hL : GL r T) : ∀ k p, p ∈ setK r T k allN → 0 ≤ cstK T (enF r) k p := fun k p hp => (en_bound hr hL k p.1 p.2 (setK_mem.1 hp).1 (setK_mem.1 hp).2.1).1
theorem best_ok (hr : RulOk r) (hL : GL r T) (h0 : (ahJ r T (enF r) r.stands.length).getD 0 0 < nev) : SchOk r (bestS r T) := by
 have hn := hr.len
 refine ⟨bestN_ok, best_len, fun k hk => ?_, ?_⟩
 ·
  rw [best_len] at hk
  have h1 := ((ch_all hL (en_pos hr hL) h0 (Nat.le_refl r.stands.length)).2 k hk).1
  obtain ⟨a1, a2, _⟩ := setK_mem.1 h1
  dsimp only at a1 a2
  have e : (bestS r T).ths.getD k 0 = T.getD (chA r T (enF r) (k + 1)) 0 := thsB_at hk
  rw [e, bestS_bef hL (by omega)]
  have h2 := hL.rng _ a2
  have h3 := hr.start
  have h4 := hr.finish
  exact ⟨by omega, hL.le a1 a2⟩
 ·
  rw [best_len]
  have e : (bestS r T).ths.getD (r.stands.length - 1) 0 = T.getD (chA r T (enF r) (r.stands.length - 1 + 1)) 0 := thsB_at (by omega)
  rw [e, show r.stands.length - 1 + 1 = r.stands.length by omega, ch_last hL (en_pos hr hL) h0]
  exact hL.lst
theorem best_sum (hr : RulOk r) (hL : GL r T) (h0 : (ahJ r T (enF r) r.stands.length).getD 0 0 < nev) : ∀ {k : Nat}, k ≤ r.stands.length → sumE r (bestS r T) k + (ahJ r T (enF r) (r.stands.length - k)).getD (chA r T (enF r) k) 0 = (ahJ r T (enF r) r.stands.length).getD 0 0
 | 0, _ => by simp [sumE, chA]
 | k + 1, hk => by
  have ih := best_sum hr hL h0 (k := k) (by omega)
  have h1 := ((ch_all hL (en_pos hr hL) h0 (Nat.le_refl r.stands.length)).2 k (by omega)).2
  have e1 := bestS_bef (k := k) hL (by omega)
  have e2 : (bestS r T).ths.getD k 0 = T.getD (chA r T (enF r) (k + 1)) 0 := thsB_at (by omega)
  simp only [sumE, drV]
  rw [e1, e2]
  unfold cstK at h1
  dsimp only at h1
  omega
theorem best_energy (hr : RulOk r) (hL : GL r T) (h0 : (ahJ r T (enF r) r.stands.length).getD 0 0 < nev) : sumE r (bestS r T) (bestS r T).ths.length = (ahJ r T (enF r) r.stands.length).getD 0 0 := by
 have h := best_sum hr hL h0 (Nat.le_refl r.stands.length)
 rw [ch_last hL (en_pos hr hL) h0, Nat.sub_self] at h
 have hT := hL.ne
 simp only [ahJ] at h
 rw [getD_set' (by rw [List.length_replicate]; omega), if_pos rfl] at h
 rw [best_len]; omega
theorem mar_le (hr : RulOk r) (hS : SchOk r s) {k j : Nat} (hk : k < s.ths.length) (hj : j < 4) : ((marS r s k).getD j default).1 ≤ ((marS r s k).getD j default).2 := by
 let m : PMat := ⟨r.slo, r.flo, r.hlo, r.stands.map fun x => x.llo⟩
 have hm : MatOk r m := by
  have a1 := hr.sle
  have a2 := hr.fle
  have a3 := hr.hle
  refine { len := by simp [m], st := ⟨Int.le_refl _, a1⟩, fr := ⟨Int.le_refl _, a2⟩, ht := ⟨Int.le_refl _, a3⟩, los := fun k hk => ?_ }
  have hk' : k < r.stands.length := by simpa [m] using hk
  have h1 := (hr.std k hk').le
  have e : m.losses.getD k 0 = (r.stands.getD k default).llo := by simp [m, List.getD_eq_getElem?_getD, List.getElem?_eq_getElem hk']
  rw [e]; exact ⟨Int.le_refl _, h1⟩
 have h := one_between hr hm hS hk hj
 omega
theorem best_holds (hr : RulOk r) (hL : GL r T) (h0 : (ahJ r T (enF r) r.stands.length).getD 0 0 < nev) : ansV (margs r (bestS r T) (bestS r T).ths.length) = 2 := by
 have hS := best_ok hr hL h0
 rw [ans_two]
 intro p hp
 obtain ⟨k, j, hk, hj, rfl⟩ := margs_mem hp
 have hle := mar_le hr hS hk hj
 have hkn : k < r.stands.length := by rw [best_len] at hk; exact hk
 have h1 := ((ch_all hL (en_pos hr hL) h0 (Nat.le_refl r.stands.length)).2 k hkn).1
 have h2 := (okS_iff.1 (setK_mem.1 h1).2.2) j (by match j, hj with
  | 0, _ => decide
  | 1, _ => decide
  | 2, _ => decide
  | 3, _ => decide)
 have e1 := bestS_bef (k := k) hL (by omega)
 have e2 : (bestS r T).ths.getD k 0 = T.getD (chA r T (enF r) (k + 1)) 0 := thsB_at hkn
 have h3 : 0 ≤ ((marS r (bestS r T) k).getD j default).1 := by
  unfold marS
  rw [e1, e2]; exact h2
 omega
theorem best_on (hr : RulOk r) (h0 : (ahJ r (gridL r g) (enF r) r.stands.length).getD 0 0 < nev) : onG r (bestS r (gridL r g)) g = true := by
 unfold onG
 rw [List.all_eq_true]
 intro x hx
 obtain ⟨k, hk, rfl⟩ := List.mem_map.1 hx
 have hL := grid_ok (g := g) hr
 exact (mem_grid.1 (getD_mem (chA_lt hL.ne))).2.2
theorem ths_conv {fin : Int} : ∀ {l : List Int} {i last : Int}, (∀ k, k < l.length → (1 ≤ l.getD k 0 ∧ l.getD k 0 ≤ 1000) ∧ l.getD k 0 ≤ (if k = 0 then last else l.getD (k - 1) 0)) → (if l.length = 0 then last else l.getD (l.length - 1) 0) = fin → (thsE fin i last l).2 = 0
 | [], i, last, _, h => by
  simp only [thsE]
  rw [if_pos (by simpa using h)]
 | n :: l, i, last, h, hf => by
  have h0 := h 0 (by simp)
  simp only [List.getD_cons_zero, if_true] at h0
  have e : thE last n = 0 := by
   unfold thE
   rw [first_cons0 (by rw [wi2.2 h0.1]; rfl), first_cons0 (by rw [decide_eq_true h0.2]; rfl)]; rfl
  simp only [thsE]
  rw [if_pos e]
  refine ths_conv (fun k hk => ?_) ?_
  ·
   have := h (k + 1) (by simpa using hk)
   cases k with
   | zero => simpa using this
   | succ k => simpa using this
  ·
   cases l with
   | nil => simpa using hf
   | cons m l => simpa using hf
theorem sch_conv (hr : RulOk r) (hS : SchOk r s) : (schE r s).2 = 0 := by
 have hl := hS.len
 have hn := hr.len
 have h0 : schH r s = 0 := by
  unfold schH
  rw [first_cons0 (by rw [hS.name]; rfl), first_cons0 (by rw [decide_eq_true (by omega)]; rfl)]; rfl
 rw [schE0 h0]
 refine ths_conv (fun k hk => ?_) ?_
 ·
  have := hS.th k hk
  unfold befV at this; exact this
 ·
  rw [if_neg (by omega)]; exact hS.last
theorem count_le (hL : GL r T) (h : ∃ c, Way r T (enF r) r.stands.length 0 c) : 0 ≤ (ahJ r T cnF r.stands.length).getD 0 0 ∧ (ahJ r T cnF r.stands.length).getD 0 0 ≤ r.stands.length := by
 obtain ⟨c, w⟩ := h
 obtain ⟨c', w'⟩ := way_any (F' := cnF) w
 have h1 := ah_le hL.ne w'
 have hb : ∀ k p, p ∈ setK r T k allN → 0 ≤ cstK T cnF k p ∧ cstK T cnF k p ≤ 1 := fun k p _ => by unfold cstK cnF; split <;> omega
 have h2 := way_bound hb w'
 have h3 := ah_bounds (r := r) (T := T) (F := cnF) (fun k p hp => (hb k p hp).1) (j := r.stands.length) hL.ne
 omega
def potOk (r : PRules) (T : List Int) (Pt : List (List Int)) : Prop := (Pt.getD r.stands.length []).getD (T.length - 1) 0 = 0 ∧ ∀ k, k < r.stands.length → ∀ p ∈ setK r T k allN, (Pt.getD k []).getD p.1 0 ≤ cstK T (enF r) k p + (Pt.getD (k + 1) []).getD p.2 0
theorem pot_way {Pt : List (List Int)} (h : potOk r T Pt) : ∀ {j i : Nat} {c : Int}, j ≤ r.stands.length → Way r T (enF r) j i c → (Pt.getD (r.stands.length - j) []).getD i 0 ≤ c
 | 0, i, c, _, ⟨h1, h2⟩ => by
  rw [Nat.sub_zero, h1, h.1]; omega
 | j + 1, i, c, hj, ⟨q, c', h1, h2, h3⟩ => by
  have ih := pot_way h (by omega) h2
  have ek : r.stands.length - 1 - j = r.stands.length - (j + 1) := by omega
  rw [ek] at h1 h3
  have h4 := h.2 (r.stands.length - (j + 1)) (by omega) _ h1
  rw [show r.stands.length - (j + 1) + 1 = r.stands.length - j by omega] at h4
  dsimp only at h4
  omega
abbrev ahP (r : PRules) (T : List Int) : List (List Int) := (List.range (r.stands.length + 1)).map fun k => ahJ r T (enF r) (r.stands.length - k)
theorem ahP_at {k : Nat} (h : k ≤ r.stands.length) : (ahP r T).getD k [] = ahJ r T (enF r) (r.stands.length - k) := by
 simp [List.getD_eq_getElem?_getD, List.getElem?_range (show k < r.stands.length + 1 by omega)]
theorem ahP_ok (hL : GL r T) : potOk r T (ahP r T) := by
 refine ⟨?_, fun k hk p hp => ?_⟩
 ·
  rw [ahP_at (Nat.le_refl _), Nat.sub_self]
  simp only [ahJ]
  have hT := hL.ne
  rw [getD_set' (by rw [List.length_replicate]; omega), if_pos rfl]
 ·
  rw [ahP_at (by omega), ahP_at (by omega)]
  obtain ⟨m, hm⟩ : ∃ m, r.stands.length - k = m + 1 := ⟨r.stands.length - k - 1, by omega⟩
  have ek : r.stands.length - 1 - m = k := by omega
  rw [hm, show r.stands.length - (k + 1) = m by omega]
  simp only [ahJ, ek]
  have hi : p.1 < T.length := by have := setK_mem.1 hp; omega
  exact (fold_at (T := T) (F := enF r) (k := k) (nxt := ahJ r T (enF r) m) (i := p.1) (l := setK r T k allN) (row := List.replicate T.length nev) (by simpa using hi)).2.1 p hp rfl
end
end Go.Vm
