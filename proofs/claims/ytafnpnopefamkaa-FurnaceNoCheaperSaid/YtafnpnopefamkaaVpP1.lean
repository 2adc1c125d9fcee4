import Derived.Test.YtafnpnopefamkaaVpX2
set_option linter.all false
namespace Go.Vm
open Go.Proofs
abbrev lsV (l : List Int) : V := .sl (l.map nn)
theorem mapls {P : List (List Int)} : (∀ y, y ∈ List.map lsV P → y.cells.length = 1) = True := by
  simp only [List.mem_map, eq_iff_iff, iff_true]; rintro y ⟨a, _, rfl⟩; rfl
structure Fue where
  sets : List (List Int)
  steps : List Int
  prices : List Int
  lo : Int
  hi : Int
abbrev fuV (x : Fue) : V := .agg [.sl (x.sets.map lsV), .sl (x.steps.map nn), .sl (x.prices.map nn), nn x.lo, nn x.hi]
def scanF (f : Nat → Int) : Nat → Nat → Int
  | 0, _ => 0
  | k + 1, i => if f i ≠ 0 then f i else scanF f k (i + 1)
abbrev scn (f : Nat → Int) (n i : Nat) : Int := scanF f (n - i) i
theorem scn_go {f : Nat → Int} {n i : Nat} (h : i < n) (h0 : f i = 0) : scn f n i = scn f n (i + 1) := by
  unfold scn
  rw [show n - i = (n - (i + 1)) + 1 by omega, scanF, if_neg (fun k => k h0)]
theorem scn_hit {f : Nat → Int} {n i : Nat} (h : i < n) (h0 : f i ≠ 0) : scn f n i = f i := by
  unfold scn
  rw [show n - i = (n - (i + 1)) + 1 by omega, scanF, if_pos h0]
theorem scn_end {f : Nat → Int} {n : Nat} : scn f n n = 0 := by unfold scn; rw [Nat.sub_self]; rfl
theorem scanF_ok {f : Nat → Int} : ∀ {k i : Nat}, scanF f k i = 0 → ∀ j, i ≤ j → j < i + k → f j = 0
  | 0, i, _, j, h1, h2 => absurd h2 (by omega)
  | k + 1, i, h, j, h1, h2 => by
    rw [scanF] at h
    by_cases c : f i = 0
    · rw [if_neg (fun k => k c)] at h
      by_cases e : j = i
      · rw [e]; exact c
      · exact scanF_ok h j (by omega) (by omega)
    · rw [if_pos c] at h; exact (c h).elim
theorem scn_ok {f : Nat → Int} {n : Nat} (h : scn f n 0 = 0) : ∀ j, j < n → f j = 0 := fun j hj => scanF_ok h j (by omega) (by omega)
def setI (l : List Int) (i : Nat) : Int := firstV [if withinV (l.getD i 0) 0 20000 = true then 0 else 2, if (decide (i = 0) || decide (l.getD i 0 > l.getD (i - 1) 0)) = true then 0 else 9]
def setS (l : List Int) : Int := firstV [if decide ((l.length : Int) > 0) = true then 0 else 10, if decide ((l.length : Int) ≤ 4) = true then 0 else 8]
def setsE (l : List Int) : Int := if setS l ≠ 0 then setS l else scn (setI l) l.length 0
def rgtB (x : Fue) (i : Nat) : Bool := withinV (x.steps.getD i 0) 1 200 && withinV (x.prices.getD i 0) 0 1000
def fueI (x : Fue) (i : Nat) : Int := firstV [setsE (x.sets.getD i default), if rgtB x i = true then 0 else 2]
def fueS (x : Fue) : Int := firstV [if (decide ((x.sets.length : Int) > 0) && (((x.steps.length : Int) == (x.sets.length : Int)) && ((x.prices.length : Int) == (x.sets.length : Int)))) = true then 0 else 10, if decide ((x.sets.length : Int) ≤ 5) = true then 0 else 8]
def fueE (x : Fue) : Int := if fueS x ≠ 0 then fueS x else if scn (fueI x) x.sets.length 0 ≠ 0 then scn (fueI x) x.sets.length 0 else targE x.lo x.hi
theorem wiB {n a b : Int} : withinV n a b = true ↔ a ≤ n ∧ n ≤ b := by simp [withinV]
theorem first0 {e : Int} {r : List Int} (h : e = 0) : firstV (e :: r) = firstV r := by rw [firstV_cons, if_pos h]
theorem first1 {e : Int} {r : List Int} (h : e ≠ 0) : firstV (e :: r) = e := by rw [firstV_cons, if_neg h]
theorem unl_ok {b : Bool} {e : Int} (he : e ≠ 0) (h : (if b = true then (0 : Int) else e) = 0) : b = true := by
  cases b
  · exact (he h).elim
  · rfl
theorem two_ok {a b : Int} (h : firstV [a, b] = 0) : a = 0 ∧ b = 0 := by
  by_cases c : a = 0
  · rw [first0 c] at h
    by_cases d : b = 0
    · exact ⟨c, d⟩
    · rw [first1 d] at h; exact (d h).elim
  · rw [first1 c] at h; exact (c h).elim
theorem setS_ok {l : List Int} (h : setS l = 0) : 1 ≤ l.length ∧ l.length ≤ 4 := by
  obtain ⟨a, b⟩ := two_ok h
  have a := of_decide_eq_true (unl_ok (by decide) a)
  have b := of_decide_eq_true (unl_ok (by decide) b)
  omega
structure SetOk (l : List Int) : Prop where
  len : 1 ≤ l.length ∧ l.length ≤ 4
  tmp : ∀ i, i < l.length → 0 ≤ l.getD i 0 ∧ l.getD i 0 ≤ 20000
  ord : ∀ i, 0 < i → i < l.length → l.getD (i - 1) 0 < l.getD i 0
theorem sets_ok {l : List Int} (h : setsE l = 0) : SetOk l := by
  unfold setsE at h
  by_cases c : setS l = 0
  · rw [if_neg (fun k => k c)] at h
    have hl := setS_ok c
    have h1 := scn_ok h
    refine ⟨hl, fun i hi => ?_, fun i h0 hi => ?_⟩
    · obtain ⟨a, _⟩ := two_ok (h1 i hi)
      exact wiB.1 (unl_ok (by decide) a)
    · obtain ⟨_, b⟩ := two_ok (h1 i hi)
      have := unl_ok (by decide) b
      rw [decide_eq_false (by omega), Bool.false_or, decide_eq_true_eq] at this
      exact this
  · rw [if_pos c] at h; exact (c h).elim
structure FueOk (x : Fue) : Prop where
  len : 1 ≤ x.sets.length ∧ x.sets.length ≤ 5
  stl : x.steps.length = x.sets.length
  prl : x.prices.length = x.sets.length
  set : ∀ i, i < x.sets.length → SetOk (x.sets.getD i default)
  stp : ∀ i, i < x.sets.length → 1 ≤ x.steps.getD i 0 ∧ x.steps.getD i 0 ≤ 200
  prc : ∀ i, i < x.sets.length → 0 ≤ x.prices.getD i 0 ∧ x.prices.getD i 0 ≤ 1000
  tar : targE x.lo x.hi = 0
theorem fueS_ok {x : Fue} (h : fueS x = 0) : (1 ≤ x.sets.length ∧ x.sets.length ≤ 5) ∧ x.steps.length = x.sets.length ∧ x.prices.length = x.sets.length := by
  obtain ⟨a, b⟩ := two_ok h
  have a := unl_ok (by decide) a
  have b := of_decide_eq_true (unl_ok (by decide) b)
  simp only [Bool.and_eq_true, decide_eq_true_eq, beq_iff_eq] at a
  omega
theorem fue_ok {x : Fue} (h : fueE x = 0) : FueOk x := by
  unfold fueE at h
  by_cases c : fueS x = 0
  · rw [if_neg (fun k => k c)] at h
    obtain ⟨h1, h2, h3⟩ := fueS_ok c
    by_cases d : scn (fueI x) x.sets.length 0 = 0
    · rw [if_neg (fun k => k d)] at h
      have hs := scn_ok d
      have hr : ∀ i, i < x.sets.length → setsE (x.sets.getD i default) = 0 ∧ rgtB x i = true := fun i hi => by
        obtain ⟨a, b⟩ := two_ok (hs i hi)
        exact ⟨a, unl_ok (by decide) b⟩
      refine ⟨h1, h2, h3, fun i hi => sets_ok (hr i hi).1, fun i hi => ?_, fun i hi => ?_, h⟩
      · have := (hr i hi).2; unfold rgtB at this; rw [Bool.and_eq_true] at this; exact wiB.1 this.1
      · have := (hr i hi).2; unfold rgtB at this; rw [Bool.and_eq_true] at this; exact wiB.1 this.2
    · rw [if_pos d] at h; exact (d h).elim
  · rw [if_pos c] at h; exact (c h).elim
def chI (x : Fue) (c : List Int) (i : Nat) : Int := if withinV (c.getD i 0) 0 (((x.sets.getD i default).length : Int) - 1) = true then 0 else 6
def choE (x : Fue) (c : List Int) : Int := if c.length ≠ x.sets.length then 10 else scn (chI x c) c.length 0
abbrev setC (x : Fue) (c : List Int) (i : Nat) : Int := (x.sets.getD i default).getD (c.getD i 0).toNat 0
def fuN (x : Fue) (c : List Int) : Nat → Int
  | 0 => 0
  | i + 1 => fuN x c i + x.prices.getD i 0 * setC x c i
structure ChoOk (x : Fue) (c : List Int) : Prop where
  len : c.length = x.sets.length
  idx : ∀ i, i < c.length → 0 ≤ c.getD i 0 ∧ (c.getD i 0).toNat < (x.sets.getD i default).length
theorem cho_ok {x : Fue} {c : List Int} (h : choE x c = 0) : ChoOk x c := by
  unfold choE at h
  by_cases k : c.length = x.sets.length
  · rw [if_neg (fun q => q k)] at h
    refine ⟨k, fun i hi => ?_⟩
    have := wiB.1 (unl_ok (by decide) (scn_ok h i hi))
    omega
  · rw [if_pos k] at h; cases h
theorem setC_rng {x : Fue} {c : List Int} (h : FueOk x) (hc : ChoOk x c) {i : Nat} (hi : i < c.length) : 0 ≤ setC x c i ∧ setC x c i ≤ 20000 := by
  have := hc.idx i hi
  exact (h.set i (by have := hc.len; omega)).tmp _ this.2
theorem pr_rng {x : Fue} {c : List Int} (h : FueOk x) (hc : ChoOk x c) {i : Nat} (hi : i < c.length) : 0 ≤ x.prices.getD i 0 * setC x c i ∧ x.prices.getD i 0 * setC x c i ≤ 20000000 := by
  obtain ⟨a1, a2⟩ := h.prc i (by have := hc.len; omega)
  obtain ⟨b1, b2⟩ := setC_rng h hc hi
  refine ⟨Int.mul_nonneg a1 b1, ?_⟩
  have := Int.mul_le_mul a2 b2 b1 (by omega)
  omega
theorem fuN_rng {x : Fue} {c : List Int} (h : FueOk x) (hc : ChoOk x c) : ∀ {i : Nat}, i ≤ c.length → 0 ≤ fuN x c i ∧ fuN x c i ≤ 20000000 * (i : Int)
  | 0, _ => by simp [fuN]
  | i + 1, hi => by
    have ih := fuN_rng h hc (i := i) (by omega)
    have := pr_rng h hc (i := i) (by omega)
    rw [fuN]; omega
end Go.Vm
