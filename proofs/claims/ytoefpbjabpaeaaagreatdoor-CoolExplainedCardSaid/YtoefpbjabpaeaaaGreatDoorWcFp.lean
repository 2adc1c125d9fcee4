import Derived.Test.YtoefpbjabpaeaaaGreatDoorWcPe
import Derived.Test.YtoefpbjabpaeaaaGreatDoorWcS
set_option linter.all false
/- Faults of banks: sets with faults, all sets of faults of a size, those that explain: plain. -/
namespace Go.Vm
open Go.Proofs
abbrev Flt := List (Int × Bool)
abbrev fV (f : Int × Bool) : V := .agg [nn f.1, .b f.2]
abbrev fsV (F : Flt) : V := .sl (F.map fV)
theorem mapf {F : Flt} : (∀ y, y ∈ List.map fV F → y.cells.length = 2) = True := by
  simp only [List.mem_map, eq_iff_iff, iff_true]; rintro y ⟨a, _, rfl⟩; rfl
theorem mapfs {F : List Flt} : (∀ y, y ∈ List.map fsV F → y.cells.length = 1) = True := by
  simp only [List.mem_map, eq_iff_iff, iff_true]; rintro y ⟨a, _, rfl⟩; rfl
def clrB (s b : Nat) : Nat := if hasB s b = true then s - 2 ^ b else s
def stepF (s : Nat) (f : Int × Bool) : Nat := if f.2 = true then s ||| 2 ^ f.1.toNat else clrB s f.1.toNat
def fltS (s : Nat) (F : Flt) : Nat := F.foldl stepF s
theorem oru : ∀ s : Nat, s < 16 → ∀ b : Nat, b < 4 → bitI .or .u64 (s : Int) ((2 ^ b : Nat) : Int) = ((s ||| 2 ^ b : Nat) : Int) := by decide
theorem clru : ∀ s : Nat, s < 16 → ∀ b : Nat, b < 4 → bitI .andNot .u64 (s : Int) ((2 ^ b : Nat) : Int) = ((clrB s b : Nat) : Int) := by decide
theorem clri : ∀ s : Nat, s < 16 → ∀ b : Nat, b < 4 → bitI .andNot .i64 (s : Int) ((2 ^ b : Nat) : Int) = ((clrB s b : Nat) : Int) := by decide
theorem or_hasF : ∀ s : Nat, s < 16 → ∀ b : Nat, b < 4 → ∀ c : Nat, c < 4 → hasB (s ||| 2 ^ b) c = (if c = b then true else hasB s c) := by decide
theorem clr_hasF : ∀ s : Nat, s < 16 → ∀ b : Nat, b < 4 → ∀ c : Nat, c < 4 → hasB (clrB s b) c = (if c = b then false else hasB s c) := by decide
theorem bits_ext : ∀ s : Nat, s < 16 → ∀ r : Nat, r < 16 → (∀ c : Nat, c < 4 → hasB s c = hasB r c) → s = r := by decide
/-- Faults of the first banks. -/
def inF (n : Nat) (F : Flt) : Prop := ∀ f ∈ F, 0 ≤ f.1 ∧ f.1 < (n : Int)
theorem stepF_lt {n s : Nat} {f : Int × Bool} (hs : s < 2 ^ n) (h : 0 ≤ f.1 ∧ f.1 < (n : Int)) : stepF s f < 2 ^ n := by
  unfold stepF
  split
  · exact Nat.or_lt_two_pow hs (Nat.pow_lt_pow_right (by omega) (by omega))
  · unfold clrB; split
    · exact Nat.lt_of_le_of_lt (Nat.sub_le ..) hs
    · exact hs
theorem fltS_lt {n : Nat} : ∀ {F : Flt} {s : Nat}, s < 2 ^ n → inF n F → fltS s F < 2 ^ n
  | [], _, hs, _ => hs
  | f :: F, s, hs, h => by
    show fltS (stepF s f) F < 2 ^ n
    exact fltS_lt (stepF_lt hs (h f (by simp))) (fun g hg => h g (List.mem_cons_of_mem _ hg))
theorem fltS_take {F : Flt} {s i : Nat} (hi : i < F.length) : fltS s (F.take (i + 1)) = stepF (fltS s (F.take i)) (F.getD i default) := by
  unfold fltS
  rw [takeS default hi, List.foldl_append]; rfl
theorem inF_take {n i : Nat} {F : Flt} (h : inF n F) : inF n (F.take i) := fun f hf => h f (List.mem_of_mem_take hf)
theorem pw16 {n : Nat} (h : n ≤ 4) : 2 ^ n ≤ 16 := Nat.pow_le_pow_right (by omega) h
/-! all sets of faults of a size, in their order -/
def grwT (n size : Nat) : Nat → Flt → List Flt
  | 0, _ => []
  | d + 1, F => (if (F ++ [(((n - d - 1 : Nat) : Int), false)]).length = size then [F ++ [(((n - d - 1 : Nat) : Int), false)]] else grwT n size d (F ++ [(((n - d - 1 : Nat) : Int), false)])) ++ ((if (F ++ [(((n - d - 1 : Nat) : Int), true)]).length = size then [F ++ [(((n - d - 1 : Nat) : Int), true)]] else grwT n size d (F ++ [(((n - d - 1 : Nat) : Int), true)])) ++ grwT n size d F)
def grwL (n size d : Nat) (F : Flt) : List Flt := if F.length = size then [F] else grwT n size d F
theorem grwT_zero {n size : Nat} {F : Flt} : grwT n size 0 F = [] := rfl
theorem grwT_succ {n size d : Nat} {F : Flt} : grwT n size (d + 1) F = grwL n size d (F ++ [(((n - d - 1 : Nat) : Int), false)]) ++ (grwL n size d (F ++ [(((n - d - 1 : Nat) : Int), true)]) ++ grwT n size d F) := rfl
def allT (n : Nat) : Nat → List Flt
  | 0 => []
  | d + 1 => (([] : Flt) :: allT n d).map (fun G => (((n - d - 1 : Nat) : Int), false) :: G) ++ ((([] : Flt) :: allT n d).map (fun G => (((n - d - 1 : Nat) : Int), true) :: G) ++ allT n d)
def allL (n d : Nat) : List Flt := [] :: allT n d
theorem allT_succ {n d : Nat} : allT n (d + 1) = (allL n d).map (fun G => (((n - d - 1 : Nat) : Int), false) :: G) ++ ((allL n d).map (fun G => (((n - d - 1 : Nat) : Int), true) :: G) ++ allT n d) := rfl
theorem allT_pos {n : Nat} : ∀ {d : Nat} {G : Flt}, G ∈ allT n d → 1 ≤ G.length
  | 0, G, h => by cases h
  | d + 1, G, h => by
    rw [allT_succ, List.mem_append, List.mem_append] at h
    rcases h with h | h | h
    · obtain ⟨g, _, rfl⟩ := List.mem_map.1 h; simp
    · obtain ⟨g, _, rfl⟩ := List.mem_map.1 h; simp
    · exact allT_pos h
theorem allT_in {n : Nat} : ∀ {d : Nat} {G : Flt}, d ≤ n → G ∈ allT n d → inF n G
  | 0, G, _, h => by cases h
  | d + 1, G, hd, h => by
    have hL : ∀ g ∈ allL n d, inF n g := fun g hg => by
      rcases List.mem_cons.1 hg with rfl | hg
      · intro f hf; cases hf
      · exact allT_in (by omega) hg
    rw [allT_succ, List.mem_append, List.mem_append] at h
    rcases h with h | h | h
    · obtain ⟨g, hg, rfl⟩ := List.mem_map.1 h
      intro f hf
      rcases List.mem_cons.1 hf with rfl | hf
      · exact ⟨by simp only; omega, by simp only; omega⟩
      · exact hL g hg f hf
    · obtain ⟨g, hg, rfl⟩ := List.mem_map.1 h
      intro f hf
      rcases List.mem_cons.1 hf with rfl | hf
      · exact ⟨by simp only; omega, by simp only; omega⟩
      · exact hL g hg f hf
    · exact allT_in (by omega) h
theorem allL_in {n d : Nat} (hd : d ≤ n) {G : Flt} (h : G ∈ allL n d) : inF n G := by
  rcases List.mem_cons.1 h with rfl | h
  · intro f hf; cases hf
  · exact allT_in hd h
theorem filter_none {α : Type} {p : α → Bool} {l : List α} (h : ∀ a ∈ l, p a = false) : l.filter p = [] := by
  rw [List.filter_eq_nil_iff]; intro a ha; rw [h a ha]; decide
theorem grw_all {n size : Nat} : ∀ {d : Nat} {F : Flt}, (F.length ≠ size → grwT n size d F = ((allT n d).filter fun G => F.length + G.length == size).map (F ++ ·)) ∧ grwL n size d F = ((allL n d).filter fun G => F.length + G.length == size).map (F ++ ·)
  | 0, F => by
    constructor
    · intro _; rfl
    · unfold grwL allL
      by_cases c : F.length = size
      · rw [if_pos c]; simp [allT, c]
      · rw [if_neg c, grwT_zero]; simp [allT, c]
  | d + 1, F => by
    have ih := fun F => grw_all (n := n) (size := size) (d := d) (F := F)
    have hT : F.length ≠ size → grwT n size (d + 1) F = ((allT n (d + 1)).filter fun G => F.length + G.length == size).map (F ++ ·) := fun hne => by
      have one : ∀ b : Bool, grwL n size d (F ++ [(((n - d - 1 : Nat) : Int), b)]) = (((allL n d).map (fun G => (((n - d - 1 : Nat) : Int), b) :: G)).filter fun G => F.length + G.length == size).map (F ++ ·) := fun b => by
        rw [(ih _).2, List.filter_map, List.map_map]
        have e1 : (fun G : Flt => (F ++ [(((n - d - 1 : Nat) : Int), b)]).length + G.length == size) = ((fun G : Flt => F.length + G.length == size) ∘ fun G => (((n - d - 1 : Nat) : Int), b) :: G) := by
          funext G; simp only [Function.comp_apply, List.length_append, List.length_cons, List.length_nil]
          rw [show F.length + (0 + 1) + G.length = F.length + (G.length + 1) by omega]
        rw [e1]
        refine List.map_congr_left fun G _ => ?_
        simp
      rw [grwT_succ, allT_succ, List.filter_append, List.filter_append, List.map_append, List.map_append, one, one, (ih F).1 hne]
    refine ⟨hT, ?_⟩
    unfold grwL allL
    by_cases c : F.length = size
    · rw [if_pos c, List.filter_cons, if_pos (by simp [c]), filter_none (fun G hG => by have := allT_pos hG; rw [beq_eq_false_iff_ne]; omega)]
      simp
    · rw [if_neg c, List.filter_cons, if_neg (by simp [c])]
      exact hT c
theorem grw_nil {n size : Nat} : grwL n size n [] = (allL n n).filter fun G => G.length == size := by
  rw [grw_all.2]
  simp
/-! how many have been handed over before a round -/
def preG (n size d : Nat) (F : Flt) : Nat → List Flt
  | 0 => []
  | j + 1 => preG n size d F j ++ (grwL n size (d - j - 1) (F ++ [(((n - d + j : Nat) : Int), false)]) ++ grwL n size (d - j - 1) (F ++ [(((n - d + j : Nat) : Int), true)]))
theorem preG_rest {n size d : Nat} {F : Flt} (hd : d ≤ n) : ∀ {j : Nat}, j ≤ d → preG n size d F j ++ grwT n size (d - j) F = grwT n size d F
  | 0, _ => by simp [preG]
  | j + 1, hj => by
    rw [← preG_rest hd (j := j) (by omega), preG]
    obtain ⟨e, he⟩ : ∃ e, d - j = e + 1 := ⟨d - j - 1, by omega⟩
    rw [show d - j - 1 = e by omega, show d - (j + 1) = e by omega, he, grwT_succ, show n - e - 1 = n - d + j by omega]
    simp only [List.append_assoc]
theorem preG_all {n size d : Nat} {F : Flt} (hd : d ≤ n) : preG n size d F d = grwT n size d F := by
  have := preG_rest (size := size) (F := F) hd (j := d) (Nat.le_refl d)
  rw [Nat.sub_self, grwT_zero, List.append_nil] at this; exact this
theorem mid_at {α : Type} {A B C : List α} {k : Nat} {z : α} (h : B[k]? = some z) : (A ++ (B ++ C))[A.length + k]? = some z := by
  have hk : k < B.length := by
    rcases Nat.lt_or_ge k B.length with h1 | h1
    · exact h1
    · rw [List.getElem?_eq_none h1] at h; cases h
  rw [List.getElem?_append_right (by omega), Nat.add_sub_cancel_left, List.getElem?_append_left hk, h]
theorem preG_f {n size d j k : Nat} {F : Flt} {z : Flt} (hd : d ≤ n) (hj : j < d) (h : (grwL n size (d - j - 1) (F ++ [(((n - d + j : Nat) : Int), false)]))[k]? = some z) : (grwT n size d F)[(preG n size d F j).length + k]? = some z := by
  rw [← preG_rest hd (j := j + 1) (by omega), preG, List.append_assoc, List.append_assoc]
  exact mid_at h
theorem preG_t {n size d j k : Nat} {F : Flt} {z : Flt} (hd : d ≤ n) (hj : j < d) (h : (grwL n size (d - j - 1) (F ++ [(((n - d + j : Nat) : Int), true)]))[k]? = some z) : (grwT n size d F)[(preG n size d F j ++ grwL n size (d - j - 1) (F ++ [(((n - d + j : Nat) : Int), false)])).length + k]? = some z := by
  rw [← preG_rest hd (j := j + 1) (by omega), preG, ← List.append_assoc, List.append_assoc _ _ (grwT n size (d - (j + 1)) F)]
  exact mid_at h
def preA (n d : Nat) : Nat → List Flt
  | 0 => [[]]
  | j + 1 => preA n d j ++ ((allL n (d - j - 1)).map (fun G => (((n - d + j : Nat) : Int), false) :: G) ++ (allL n (d - j - 1)).map (fun G => (((n - d + j : Nat) : Int), true) :: G))
theorem preA_rest {n d : Nat} (hd : d ≤ n) : ∀ {j : Nat}, j ≤ d → preA n d j ++ allT n (d - j) = allL n d
  | 0, _ => by simp [preA, allL]
  | j + 1, hj => by
    rw [← preA_rest hd (j := j) (by omega), preA]
    obtain ⟨e, he⟩ : ∃ e, d - j = e + 1 := ⟨d - j - 1, by omega⟩
    rw [show d - j - 1 = e by omega, show d - (j + 1) = e by omega, he, allT_succ, show n - e - 1 = n - d + j by omega]
    simp only [List.append_assoc]
theorem preA_all {n d : Nat} (hd : d ≤ n) : preA n d d = allL n d := by
  have := preA_rest hd (j := d) (Nat.le_refl d)
  rw [Nat.sub_self] at this
  simpa [allT] using this
/-! those that explain, of the least size -/
def mtB (a b : Int × Int) : Bool := decide (a.1 ≤ b.2) && decide (b.1 ≤ a.2)
def expB (t : CTab) (x : CStrip) (S : List Int) (X : List (Int × Int)) (F : Flt) : Bool := (List.range S.length).all fun i => mtB (pasR t (fltS (S.getD i 0).toNat F) (x.ents.getD i default)) (X.getD i default)
def sizL (t : CTab) (x : CStrip) (S : List Int) (X : List (Int × Int)) (size : Nat) : List Flt := (grwL t.banks.length size t.banks.length []).filter (expB t x S X)
def fndF (E : Nat → List Flt) : Nat → Nat → List Flt
  | 0, _ => []
  | m + 1, k => if 0 < (E k).length then E k else fndF E m (k + 1)
def minF (t : CTab) (x : CStrip) (S : List Int) (X : List (Int × Int)) : List Flt := fndF (sizL t x S X) (t.banks.length + 1) 0
theorem siz_all {t : CTab} {x : CStrip} {S : List Int} {X : List (Int × Int)} {size : Nat} : sizL t x S X size = (allL t.banks.length t.banks.length).filter fun G => G.length == size && expB t x S X G := by
  unfold sizL; rw [grw_nil, List.filter_filter]
  refine List.filter_congr fun G _ => ?_
  rw [Bool.and_comm]
end Go.Vm
