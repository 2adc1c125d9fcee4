import Derived.Test.YteegjkaoihcebaaGreatDoorWpD
import Derived.Test.YteegjkaoihcebaaGreatDoorWpE
set_option linter.all false
namespace Go.Vm
open Go.Proofs
structure PSched where
  name : ByteArray
  ths : List Int
abbrev schV (s : PSched) : V := .agg [.s s.name, .sl (s.ths.map nn)]
end Go.Vm

namespace Go.Vm
open Go.Proofs
theorem conts_arr {σ : VS} {t g : Nat} : conts σ (.arr t g) = (curA σ t g).map fun x => (x.2, [.a t]) := rfl
structure StdOk (s : PStand) : Prop where
  rad : 1 ≤ s.rad ∧ s.rad ≤ 1000
  force : 0 ≤ s.force ∧ s.force ≤ 1000000000000
  torque : 0 ≤ s.torque ∧ s.torque ≤ 1000000000000
  llo : 0 ≤ s.llo ∧ s.llo ≤ 1000
  lhi : 0 ≤ s.lhi ∧ s.lhi ≤ 1000
  le : s.llo ≤ s.lhi
structure RulOk (r : PRules) : Prop where
  width : 1 ≤ r.width ∧ r.width ≤ 2500
  start : 1 ≤ r.start ∧ r.start ≤ 1000
  finish : 1 ≤ r.finish ∧ r.finish ≤ 1000
  hlo : 0 ≤ r.hlo ∧ r.hlo ≤ 20000
  hhi : 0 ≤ r.hhi ∧ r.hhi ≤ 20000
  cold : 0 ≤ r.cold ∧ r.cold ≤ 20000
  slo : 1 ≤ r.slo ∧ r.slo ≤ 100
  shi : 1 ≤ r.shi ∧ r.shi ≤ 100
  flo : 0 ≤ r.flo ∧ r.flo ≤ 100
  fhi : 0 ≤ r.fhi ∧ r.fhi ≤ 100
  fs : r.finish ≤ r.start
  hle : r.hlo ≤ r.hhi
  sle : r.slo ≤ r.shi
  fle : r.flo ≤ r.fhi
  len : 1 ≤ r.stands.length ∧ r.stands.length ≤ 6
  std : ∀ i, i < r.stands.length → StdOk (r.stands.getD i default)
theorem stdE_ok {s : PStand} (h : stdE s = 0) : StdOk s := by
  unfold stdE at h
  by_cases c1 : stdR s = true
  · by_cases c2 : s.llo ≤ s.lhi
    · simp only [stdR, Bool.and_eq_true, wi2] at c1
      obtain ⟨⟨⟨h1, h2⟩, h3⟩, h4, h5⟩ := c1
      exact ⟨h1, h2, h3, h4, h5, c2⟩
    · simp only [c1, c2, firstV_cons, firstV_nil, if_true, decide_false, Bool.false_eq_true, if_false] at h; cases h
  · simp only [c1, firstV_cons, if_false] at h; cases h
theorem standsE_ok : ∀ {l : List PStand} {i : Int}, (standsE i l).2 = 0 → ∀ k, k < l.length → StdOk (l.getD k default)
  | [], _, _, k, hk => by simp at hk
  | s :: l, i, h, k, hk => by
    simp only [standsE] at h
    by_cases c : stdE s = 0
    · rw [if_pos c] at h
      cases k with
      | zero => simpa using stdE_ok c
      | succ k => simpa using standsE_ok h k (by simpa using hk)
    · rw [if_neg c] at h; exact (c h).elim
theorem rul_ok {r : PRules} (h : (rulesE r).2 = 0) : RulOk r := by
  have h0 : headE r = 0 := by
    by_cases c : headE r = 0
    · exact c
    · rw [rulesE1 c] at h; exact h
  rw [rulesE0 h0] at h
  have hs := standsE_ok h
  unfold headE at h0
  by_cases c1 : headR r = true
  · by_cases c2 : headO r = true
    · by_cases c3 : (r.stands.length : Int) > 0
      · by_cases c4 : (r.stands.length : Int) ≤ 6
        · simp only [headR, Bool.and_eq_true, wi2] at c1
          simp only [headO, Bool.and_eq_true, decide_eq_true_eq] at c2
          obtain ⟨⟨⟨⟨⟨⟨h1, h2⟩, h3⟩, h4, h5⟩, h6⟩, h7, h8⟩, h9, h10⟩ := c1
          obtain ⟨d1, ⟨d2, d3⟩, d4⟩ := c2
          exact ⟨h1, h2, h3, h4, h5, h6, h7, h8, h9, h10, d1, d2, d3, d4, ⟨by omega, by omega⟩, hs⟩
        · simp only [c1, c2, c3, c4, firstV_cons, firstV_nil, if_true, decide_true, decide_false, Bool.false_eq_true, if_false] at h0; cases h0
      · simp only [c1, c2, c3, firstV_cons, if_true, decide_false, Bool.false_eq_true, if_false] at h0; cases h0
    · simp only [c1, c2, firstV_cons, if_true, Bool.false_eq_true, if_false] at h0; cases h0
  · simp only [c1, firstV_cons, Bool.false_eq_true, if_false] at h0; cases h0
def befV (r : PRules) (s : PSched) (k : Nat) : Int := if k = 0 then r.start else s.ths.getD (k - 1) 0
structure SchOk (r : PRules) (s : PSched) : Prop where
  name : nameV s.name = true
  len : s.ths.length = r.stands.length
  th : ∀ k, k < s.ths.length → (1 ≤ s.ths.getD k 0 ∧ s.ths.getD k 0 ≤ 1000) ∧ s.ths.getD k 0 ≤ befV r s k
  last : s.ths.getD (s.ths.length - 1) 0 = r.finish
abbrev D3 := Int × Int × Int
abbrev d3 (d : D3) : V := .agg [nn d.1, nn d.2.1, nn d.2.2]
def sumT (st : List PStand) : Nat → Int × Int
  | 0 => (0, 0)
  | i + 1 => ((sumT st i).1 + (st.getD i default).llo, (sumT st i).2 + (st.getD i default).lhi)
def lossL (st : List PStand) (n : Nat) : List (Int × Int) := (List.range n).map fun k => sumT st (k + 1)
theorem lossL_succ {st : List PStand} {n : Nat} : lossL st (n + 1) = lossL st n ++ [sumT st (n + 1)] := by simp [lossL, List.range_succ]
theorem lossL_len {st : List PStand} {n : Nat} : (lossL st n).length = n := by simp [lossL]
theorem lossL_at {st : List PStand} {n k : Nat} (h : k < n) : (lossL st n).getD k default = sumT st (k + 1) := by simp [lossL, List.getD, h]
theorem sumT_ok {r : PRules} (h : RulOk r) : ∀ {n : Nat}, n ≤ r.stands.length → (0 ≤ (sumT r.stands n).1 ∧ (sumT r.stands n).1 ≤ 1000 * n) ∧ (0 ≤ (sumT r.stands n).2 ∧ (sumT r.stands n).2 ≤ 1000 * n)
  | 0, _ => by simp [sumT]
  | n + 1, hn => by
    have h1 := sumT_ok h (n := n) (by omega)
    have h2 := h.std n (by omega)
    have h3 := h2.llo
    have h4 := h2.lhi
    simp only [sumT]
    omega
abbrev milV (r : PRules) (ls : List (Int × Int)) : V := .agg [nn r.width, nn r.start, nn r.finish, nn r.hlo, nn r.hhi, nn r.cold, .sl (r.stands.map stdV), nn r.slo, nn r.shi, nn r.flo, nn r.fhi, .sl (ls.map p2)]
def fcV (w b a st fr : Int) : Int := if b - a = 0 then 0 else w * (st * (b - a) + fr * (b + a))
def gripV (rad b a fr : Int) : Int := if b - a = 0 then 0 else fr * rad - (b - a) * 100
def warmV (start a heat loss st : Int) : Int := (heat - loss) * 100 + st * (start - a)
structure DrOk (d : D3) : Prop where
  b : 1 ≤ d.2.1 ∧ d.2.1 ≤ 1000
  a : 1 ≤ d.2.2 ∧ d.2.2 ≤ 1000
  le : d.2.2 ≤ d.2.1
theorem fc_bound {w b a st fr : Int} (hw : 0 ≤ w ∧ w ≤ 2500) (hb : 1 ≤ b ∧ b ≤ 1000) (ha : 1 ≤ a ∧ a ≤ 1000) (hle : a ≤ b) (hs : 0 ≤ st ∧ st ≤ 100) (hf : 0 ≤ fr ∧ fr ≤ 100) :
    (0 ≤ st * (b - a) ∧ st * (b - a) ≤ 100000) ∧ (0 ≤ fr * (b + a) ∧ fr * (b + a) ≤ 200000) ∧ (0 ≤ w * (st * (b - a) + fr * (b + a)) ∧ w * (st * (b - a) + fr * (b + a)) ≤ 750000000) ∧ (0 ≤ fcV w b a st fr ∧ fcV w b a st fr ≤ 750000000) := by
  have h1 := mul_bound (x := st) (y := b - a) (X := 100) (Y := 1000) (by omega) (by omega) (by omega) (by omega)
  have h2 := mul_bound (x := fr) (y := b + a) (X := 100) (Y := 2000) (by omega) (by omega) (by omega) (by omega)
  have p1 : 0 ≤ st * (b - a) := Int.mul_nonneg hs.1 (by omega)
  have p2 : 0 ≤ fr * (b + a) := Int.mul_nonneg hf.1 (by omega)
  have h3 := mul_bound (x := w) (y := st * (b - a) + fr * (b + a)) (X := 2500) (Y := 300000) (by omega) (by omega) (by omega) (by omega)
  have p3 : 0 ≤ w * (st * (b - a) + fr * (b + a)) := Int.mul_nonneg hw.1 (by omega)
  refine ⟨⟨p1, by omega⟩, ⟨p2, by omega⟩, ⟨p3, by omega⟩, ?_⟩
  unfold fcV; split <;> omega
theorem tq_bound {f by' : Int} (hf : 0 ≤ f ∧ f ≤ 750000000) (hb : 0 ≤ by' ∧ by' ≤ 999) : 0 ≤ f * by' ∧ f * by' ≤ 749250000000 := by
  have h1 := mul_bound (x := f) (y := by') (X := 750000000) (Y := 999) (by omega) (by omega) (by omega) (by omega)
  exact ⟨Int.mul_nonneg hf.1 hb.1, by omega⟩
theorem gr_bound {rad b a fr : Int} (hr : 1 ≤ rad ∧ rad ≤ 1000) (hb : 1 ≤ b ∧ b ≤ 1000) (ha : 1 ≤ a ∧ a ≤ 1000) (hle : a ≤ b) (hf : 0 ≤ fr ∧ fr ≤ 100) :
    (0 ≤ fr * rad ∧ fr * rad ≤ 100000) ∧ (-100000 ≤ gripV rad b a fr ∧ gripV rad b a fr ≤ 100000) := by
  have h1 := mul_bound (x := fr) (y := rad) (X := 100) (Y := 1000) (by omega) (by omega) (by omega) (by omega)
  have p1 : 0 ≤ fr * rad := Int.mul_nonneg hf.1 (by omega)
  refine ⟨⟨p1, by omega⟩, ?_⟩
  unfold gripV; split <;> omega
theorem wm_bound {start a heat loss st : Int} (hs : 1 ≤ start ∧ start ≤ 1000) (ha : 1 ≤ a ∧ a ≤ 1000) (hle : a ≤ start) (hh : 0 ≤ heat ∧ heat ≤ 20000) (hl : 0 ≤ loss ∧ loss ≤ 6000) (ht : 0 ≤ st ∧ st ≤ 100) :
    (0 ≤ st * (start - a) ∧ st * (start - a) ≤ 100000) ∧ (-600000 ≤ warmV start a heat loss st ∧ warmV start a heat loss st ≤ 2100000) := by
  have h1 := mul_bound (x := st) (y := start - a) (X := 100) (Y := 1000) (by omega) (by omega) (by omega) (by omega)
  have p1 : 0 ≤ st * (start - a) := Int.mul_nonneg ht.1 (by omega)
  refine ⟨⟨p1, by omega⟩, ?_⟩
  unfold warmV; omega
end Go.Vm
