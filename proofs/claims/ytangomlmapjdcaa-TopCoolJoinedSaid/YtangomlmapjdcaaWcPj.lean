import Derived.Test.YtangomlmapjdcaaWcCp
set_option linter.all false
/- Strips one after the other: what the cheapest sets of both cost together: plain. -/
namespace Go.Vm
open Go.Proofs
/-! the table with all banks available at once -/
def nowB (l : List CBank) (n : Nat) : List CBank := l.mapIdx fun j b => if j < n then ⟨b.lo, b.hi, 0⟩ else b
theorem nowB_len {l : List CBank} {n : Nat} : (nowB l n).length = l.length := by simp [nowB]
theorem nowB_zero {l : List CBank} : nowB l 0 = l := by
  apply List.ext_getElem
  · simp [nowB]
  · intro i h1 h2; simp [nowB]
theorem nowB_at {l : List CBank} {n i : Nat} (hi : i < l.length) : (nowB l n).getD i default = if i < n then ⟨(l.getD i default).lo, (l.getD i default).hi, 0⟩ else l.getD i default := by
  rw [List.getD_eq_getElem?_getD, List.getD_eq_getElem?_getD]
  simp [nowB, hi]
theorem nowB_succ {l : List CBank} {n : Nat} (hn : n < l.length) : nowB l (n + 1) = (nowB l n).set n ⟨(l.getD n default).lo, (l.getD n default).hi, 0⟩ := by
  apply List.ext_getElem
  · simp [nowB]
  · intro i h1 h2
    rw [List.getElem_set]
    simp only [nowB, List.getElem_mapIdx]
    by_cases c : n = i
    · subst c
      simp [List.getD, hn]
    · rw [if_neg c]
      by_cases c2 : i < n
      · rw [if_pos c2, if_pos (by omega)]
      · rw [if_neg c2, if_neg (by omega)]
def nowT (t : CTab) : CTab := ⟨t.water, t.air, nowB t.banks t.banks.length⟩
theorem nowT_len {t : CTab} : (nowT t).banks.length = t.banks.length := nowB_len
theorem nowT_ok {t : CTab} (ht : TabOk t) : TabOk (nowT t) := by
  refine ⟨ht.water, ht.air, by rw [nowT_len]; exact ht.len, ?_⟩
  rw [nowT_len]
  intro i hi
  have hb := ht.bank i hi
  have e : (nowT t).banks.getD i default = ⟨(t.banks.getD i default).lo, (t.banks.getD i default).hi, 0⟩ := by show (nowB _ _).getD i default = _; rw [nowB_at hi, if_pos hi]
  rw [e]
  exact ⟨hb.1, Int.le_refl _, by show (0 : Int) ≤ 8; omega⟩
theorem nowT_av {t : CTab} {i : Nat} : ∀ {n : Nat}, n ≤ t.banks.length → avN (nowT t) (i : Int) n = avN (nowT t) 0 n
  | 0, _ => rfl
  | n + 1, h => by
    have e : (nowT t).banks.getD n default = ⟨(t.banks.getD n default).lo, (t.banks.getD n default).hi, 0⟩ := by show (nowB _ _).getD n default = _; rw [nowB_at (by omega), if_pos (by omega)]
    have a : ∀ k : Nat, avB (nowT t) (k : Int) n = true := fun k => by
      unfold avB; rw [e]; exact decide_eq_true (by show (k : Int) + n ≥ 0; omega)
    have a0 : avB (nowT t) 0 n = true := by simpa using a 0
    simp only [avN]
    rw [nowT_av (by omega), if_pos (a i)]
    rw [if_pos a0]
theorem nowT_avV {t : CTab} (i j : Nat) : avV (nowT t) (i : Int) = avV (nowT t) (j : Int) := by
  unfold avV; rw [nowT_len, nowT_av (i := i) (Nat.le_refl _), nowT_av (i := j) (Nat.le_refl _)]
/-! one strip behind the other -/
def bothX (x y : CStrip) : CStrip := ⟨x.ents ++ y.ents, x.tars ++ y.tars⟩
theorem app_l {a b : List (Int × Int)} {i : Nat} (h : i < a.length) : (a ++ b).getD i default = a.getD i default := by
  rw [List.getD_eq_getElem?_getD, List.getElem?_append_left h, ← List.getD_eq_getElem?_getD]
theorem app_r {a b : List (Int × Int)} {i : Nat} : (a ++ b).getD (a.length + i) default = b.getD i default := by
  rw [List.getD_eq_getElem?_getD, List.getElem?_append_right (by omega), show a.length + i - a.length = i by omega, ← List.getD_eq_getElem?_getD]
theorem both_len {x y : CStrip} : (bothX x y).ents.length = x.ents.length + y.ents.length := List.length_append ..
theorem both_ok {x y : CStrip} (hx : StrOk x) (hy : StrOk y) (h : x.ents.length + y.ents.length ≤ 12) : StrOk (bothX x y) := by
  have h1 := hx.len
  have h2 := hx.same
  have h3 := hy.same
  refine ⟨by rw [both_len]; omega, ?_, ?_, ?_⟩
  · rw [both_len]; show (x.tars ++ y.tars).length = _; rw [List.length_append]; omega
  · rw [both_len]
    intro i hi
    show rgE ((x.ents ++ y.ents).getD i default) 12000 = 0
    by_cases c : i < x.ents.length
    · rw [app_l c]; exact hx.ent i c
    · obtain ⟨k, rfl⟩ : ∃ k, i = x.ents.length + k := ⟨i - x.ents.length, by omega⟩
      rw [app_r]; exact hy.ent k (by omega)
  · rw [both_len]
    intro i hi
    show rgE ((x.tars ++ y.tars).getD i default) 12000 = 0
    by_cases c : i < x.tars.length
    · rw [app_l c]; exact hx.tar i (by omega)
    · obtain ⟨k, rfl⟩ : ∃ k, i = x.tars.length + k := ⟨i - x.tars.length, by omega⟩
      rw [app_r]; exact hy.tar k (by omega)
theorem rch_same {t : CTab} {x x' : CStrip} {i i' : Nat} (ha : avV t (i' : Int) = avV t (i : Int)) (he : x'.ents.getD i' default = x.ents.getD i default) (hr : x'.tars.getD i' default = x.tars.getD i default) : rchS t x' i' = rchS t x i ∧ pmtS t x' i' = pmtS t x i := by
  have e1 : ∀ s, ansA t x' i' s = ansA t x i s := fun s => by unfold ansA; rw [he, hr]
  have e2 : setL t i' = setL t i := by unfold setL preL; rw [ha]
  have e3 : rchS t x' i' = rchS t x i := by unfold rchS; simp only [e1, e2]
  exact ⟨e3, by unfold pmtS; rw [e3, e2]⟩
theorem both_l {t : CTab} {x y : CStrip} (hx : StrOk x) {i : Nat} (h : i < x.ents.length) : rchS t (bothX x y) i = rchS t x i ∧ pmtS t (bothX x y) i = pmtS t x i :=
  rch_same rfl (app_l h) (app_l (by have := hx.same; omega))
theorem both_r {t : CTab} {x y : CStrip} (hx : StrOk x) {i : Nat} : pmtS (nowT t) (bothX x y) (x.ents.length + i) = pmtS (nowT t) y i :=
  (rch_same (nowT_avV _ _) app_r (by rw [← hx.same]; exact app_r)).2
theorem str_zero {x : CStrip} (h : StrOk x) : (strE x).2 = 0 := by
  have hl := h.len
  have hs := h.same
  have e : shE x = 0 := by
    unfold shE
    rw [decide_eq_true (show (x.ents.length : Int) > 0 by omega), beq_iff_eq.2 (show (x.tars.length : Int) = (x.ents.length : Int) by omega), decide_eq_true (show (x.ents.length : Int) ≤ 12 by omega)]
    rfl
  unfold strE
  rw [if_neg (fun k => k e), scan_none]
  intro p hp
  obtain ⟨i, hi, rfl⟩ := List.getElem_of_mem hp
  have hi2 : i < x.ents.length := by rw [zip_len hs] at hi; exact hi
  have := zip_at hs hi2
  rw [List.getD_eq_getElem?_getD, List.getElem?_eq_getElem hi] at this
  simp only [Option.getD_some] at this
  rw [this]
  unfold segE
  have a : rgE ((x.ents.getD i default).1, (x.ents.getD i default).2) 12000 = 0 := h.ent i hi2
  have b : rgE ((x.tars.getD i default).1, (x.tars.getD i default).2) 12000 = 0 := h.tar i hi2
  simp only [a, b]
  rfl
/-! costs in two parts -/
theorem cosF_split {w : Nat → Int} {d : Nat → Nat → Int} {l : Nat → Nat} {n1 : Nat} (h1 : 0 < n1) : ∀ {k : Nat}, cosF w d l (n1 + (k + 1)) = cosF w d l n1 + d (l (n1 - 1)) (l n1) + cosF w d (fun i => l (n1 + i)) (k + 1)
  | 0 => by
    show cosF w d l (n1 + 1) = _
    simp only [cosF, if_true]
    rw [if_neg (show ¬ n1 = 0 by omega)]
    simp only [Nat.add_zero]
    omega
  | k + 1 => by
    have ih := cosF_split (w := w) (d := d) (l := l) h1 (k := k)
    have e : cosF w d l (n1 + (k + 1 + 1)) = cosF w d l (n1 + (k + 1)) + w (l (n1 + (k + 1))) + d (l (n1 + k)) (l (n1 + (k + 1))) := by
      show cosF w d l (n1 + (k + 1)) + w (l (n1 + (k + 1))) + (if n1 + (k + 1) = 0 then 0 else d (l (n1 + (k + 1) - 1)) (l (n1 + (k + 1)))) = _
      rw [if_neg (by omega), show n1 + (k + 1) - 1 = n1 + k by omega]
    have e2 : cosF w d (fun i => l (n1 + i)) (k + 1 + 1) = cosF w d (fun i => l (n1 + i)) (k + 1) + w (l (n1 + (k + 1))) + d (l (n1 + k)) (l (n1 + (k + 1))) := by
      conv => lhs; unfold cosF
      rw [if_neg (by omega), show k + 1 - 1 = k by omega]
    rw [e, e2, ih]
    omega
theorem size_le : ∀ n : Nat, n < 5 → ∀ s : Nat, s < 16 → s < 2 ^ n → sizeB s ≤ n := by decide
theorem best_all {t : CTab} {x : CStrip} {c : CPri} (hx : StrOk x) : cosF (ownC c) (chgC c) (bstC t x c) x.ents.length = bestC t x c :=
  cost_all (by have := hx.len; omega) (fun i _ => pmt_ok i)
theorem best_least {t : CTab} {x : CStrip} {c : CPri} (hx : StrOk x) {l : Nat → Nat} (hl : ∀ i, i < x.ents.length → l i ∈ pmtS t x i) : bestC t x c ≤ cosF (ownC c) (chgC c) l x.ents.length := by
  rw [← best_all hx]
  exact cost_least (by have := hx.len; omega) (fun i _ => pmt_ok i) hl
theorem joined {t : CTab} {x y : CStrip} {c : CPri} (ht : TabOk t) (hc : priE c = 0) (hx : StrOk x) (hy : StrOk y) (h : x.ents.length + y.ents.length ≤ 12) : bestC (nowT t) x c + bestC (nowT t) y c ≤ bestC (nowT t) (bothX x y) c ∧ bestC (nowT t) (bothX x y) c ≤ bestC (nowT t) x c + bestC (nowT t) y c + c.ch * t.banks.length := by
  have hb := both_ok hx hy h
  have h1 := hx.len
  have h2 := hy.len
  have h4 := ht.len
  obtain ⟨k, hk⟩ : ∃ k, y.ents.length = k + 1 := ⟨y.ents.length - 1, by omega⟩
  have hbl : (bothX x y).ents.length = x.ents.length + (k + 1) := by rw [both_len, hk]
  constructor
  · rw [← best_all hb, hbl, cosF_split (by omega)]
    have a := best_least (t := nowT t) (c := c) hx (l := bstC (nowT t) (bothX x y) c) (fun i hi => by
      have := bstC_mem (t := nowT t) (x := bothX x y) (c := c) (i := i) (by rw [both_len]; omega)
      rwa [(both_l hx hi).2] at this)
    have b := best_least (t := nowT t) (c := c) hy (l := fun i => bstC (nowT t) (bothX x y) c (x.ents.length + i)) (fun i hi => by
      have := bstC_mem (t := nowT t) (x := bothX x y) (c := c) (i := x.ents.length + i) (by rw [both_len]; omega)
      rwa [both_r hx] at this)
    rw [hk] at b
    have d := chg_bound hc (bstC (nowT t) (bothX x y) c (x.ents.length - 1)) (bstC (nowT t) (bothX x y) c x.ents.length)
    omega
  · obtain ⟨l, hl⟩ : ∃ l : Nat → Nat, l = fun i => if i < x.ents.length then bstC (nowT t) x c i else bstC (nowT t) y c (i - x.ents.length) := ⟨_, rfl⟩
    have a := best_least (t := nowT t) (c := c) hb (l := l) (fun i hi => by
      rw [both_len] at hi
      rw [hl]
      simp only
      by_cases q : i < x.ents.length
      · rw [if_pos q, (both_l hx q).2]; exact bstC_mem q
      · rw [if_neg q]
        obtain ⟨j, rfl⟩ : ∃ j, i = x.ents.length + j := ⟨i - x.ents.length, by omega⟩
        rw [both_r hx, show x.ents.length + j - x.ents.length = j by omega]
        exact bstC_mem (by omega))
    rw [hbl, cosF_split (by omega)] at a
    have e1 : cosF (ownC c) (chgC c) l x.ents.length = bestC (nowT t) x c := by
      rw [← best_all hx]; exact cosF_congr fun i hi => by rw [hl]; simp only; rw [if_pos hi]
    have e2 : cosF (ownC c) (chgC c) (fun i => l (x.ents.length + i)) (k + 1) = bestC (nowT t) y c := by
      rw [← best_all hy, hk]; exact cosF_congr fun i hi => by rw [hl]; simp only; rw [if_neg (by omega), show x.ents.length + i - x.ents.length = i by omega]
    rw [e1, e2] at a
    have hm1 : l (x.ents.length - 1) < 2 ^ t.banks.length := by
      rw [hl]; simp only; rw [if_pos (by omega)]
      have := (pmt_mem (bstC_mem (t := nowT t) (x := x) (c := c) (i := x.ents.length - 1) (by omega))).1
      rwa [nowT_len] at this
    have hm2 : l x.ents.length < 2 ^ t.banks.length := by
      rw [hl]; simp only; rw [if_neg (by omega)]
      have := (pmt_mem (bstC_mem (t := nowT t) (x := y) (c := c) (i := x.ents.length - x.ents.length) (by omega))).1
      rwa [nowT_len] at this
    have k16 : 2 ^ t.banks.length ≤ 16 := cntA_le h4.2
    have hxr := Nat.xor_lt_two_pow hm1 hm2
    have hs := size_le t.banks.length (by omega) _ (by omega) hxr
    have d : chgC c (l (x.ents.length - 1)) (l x.ents.length) ≤ c.ch * t.banks.length := Int.mul_le_mul_of_nonneg_left (by omega) (pri_ok hc).2.1
    omega
theorem best_small {t : CTab} {x : CStrip} {c : CPri} (hx : StrOk x) (h1 : c.op = 4) (h2 : c.ch = 3) : 0 ≤ bestC t x c ∧ bestC t x c ≤ 1000 := by
  have hn := hx.len
  have hw : ∀ s, 0 ≤ ownC c s ∧ ownC c s ≤ 16 := fun s => by
    have := sizeB_le s
    show 0 ≤ c.op * (sizeB s : Int) ∧ c.op * (sizeB s : Int) ≤ 16
    rw [h1]; omega
  have hd : ∀ a b, 0 ≤ chgC c a b ∧ chgC c a b ≤ 12 := fun a b => by
    have := sizeB_le (a ^^^ b)
    show 0 ≤ c.ch * (sizeB (a ^^^ b) : Int) ∧ c.ch * (sizeB (a ^^^ b) : Int) ≤ 12
    rw [h2]; omega
  have h : 0 ≤ bestC t x c ∧ bestC t x c ≤ (((x.ents.length - 1 : Nat) : Int) + 1) * (16 + 12) := rK_bound (P := pmtS t x) (w := ownC c) (d := chgC c) (N := x.ents.length) (W := 16) (D := 12) (fun i _ => (pmt_ok i).1) (fun i _ a _ => hw a) hd ⟨by omega, by omega⟩ (k := x.ents.length - 1) (by omega) _ (by rw [show x.ents.length - 1 - (x.ents.length - 1) = 0 by omega]; exact bstC_mem (by omega))
  omega
end Go.Vm
