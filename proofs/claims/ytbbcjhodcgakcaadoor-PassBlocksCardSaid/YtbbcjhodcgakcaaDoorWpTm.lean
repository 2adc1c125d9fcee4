import Derived.Test.YtbbcjhodcgakcaaDoorWpTl
import Derived.Test.YtbbcjhodcgakcaaDoorWpY
set_option linter.all false
/- Limits that are lifted at a stand: what blocks then: plain. -/
namespace Go.Vm
open Go.Proofs
/-! limits that are lifted at a stand -/
def lifS (f t : Bool) (s : PStand) : PStand := { s with force := if f then 1000000000000 else s.force, torque := if t then 1000000000000 else s.torque }
def lifR (r : PRules) (k : Nat) (f t : Bool) : PRules := { r with stands := r.stands.set k (lifS f t (r.stands.getD k default)) }
section
variable {r : PRules} {T : List Int} {k j : Nat} {f t : Bool} {b a : Int}
theorem lif_len : (lifR r k f t).stands.length = r.stands.length := by unfold lifR; rw [List.length_set]
theorem lif_at (hk : k < r.stands.length) : (lifR r k f t).stands.getD j default = if j = k then lifS f t (r.stands.getD k default) else r.stands.getD j default := by
  unfold lifR; rw [getD_set' hk]
theorem lif_at2 (hk : k < r.stands.length) : (lifR r k f t).stands.getD j default = if j = k then lifS f t (r.stands.getD j default) else r.stands.getD j default := by
  rw [lif_at hk]; by_cases e : j = k
  · subst e; rfl
  · rw [if_neg e, if_neg e]
theorem lif_ok (hr : RulOk r) (hk : k < r.stands.length) : RulOk (lifR r k f t) :=
  { width := hr.width, start := hr.start, finish := hr.finish, hlo := hr.hlo, hhi := hr.hhi, cold := hr.cold, slo := hr.slo, shi := hr.shi, flo := hr.flo, fhi := hr.fhi
    fs := hr.fs, hle := hr.hle, sle := hr.sle, fle := hr.fle, len := by rw [lif_len]; exact hr.len
    std := fun i hi => by
      rw [lif_len] at hi
      have hs := hr.std i hi
      rw [lif_at2 hk]
      split
      · refine ⟨hs.rad, ?_, ?_, hs.llo, hs.lhi, hs.le⟩
        · have := hs.force; unfold lifS; dsimp only; split <;> omega
        · have := hs.torque; unfold lifS; dsimp only; split <;> omega
      · exact hs }
theorem lif_grid {g : Int} : gridL (lifR r k f t) g = gridL r g := rfl
theorem lif_sum (hk : k < r.stands.length) : ∀ {n : Nat}, sumT (lifR r k f t).stands n = sumT r.stands n
  | 0 => rfl
  | n + 1 => by
    simp only [sumT]
    rw [lif_sum hk, lif_at2 hk]
    split <;> rfl
theorem lif_LS (hk : k < r.stands.length) : LS (lifR r k f t) = LS r := by
  unfold LS lossL
  rw [lif_len]
  congr 1; funext n; exact lif_sum hk
theorem lif_ne (hk : k < r.stands.length) (h : j ≠ k) : marL (lifR r k f t) (LS (lifR r k f t)) j b a = marL r (LS r) j b a := by
  rw [lif_LS hk]
  unfold marL mF mT mB mC
  rw [lif_at hk, if_neg h]
  rfl
theorem lif_eq (hk : k < r.stands.length) : marL (lifR r k f t) (LS (lifR r k f t)) k b a = [((if f then 1000000000000 else (r.stands.getD k default).force) - fcV r.width b a r.shi r.fhi, (if f then 1000000000000 else (r.stands.getD k default).force) - fcV r.width b a r.slo r.flo), ((if t then 1000000000000 else (r.stands.getD k default).torque) - fcV r.width b a r.shi r.fhi * (b - a), (if t then 1000000000000 else (r.stands.getD k default).torque) - fcV r.width b a r.slo r.flo * (b - a)), mB r k b a, mC r ((LS r).getD k default) a] := by
  rw [lif_LS hk]
  unfold marL mF mT mB mC
  rw [lif_at hk, if_pos rfl]
  rfl
/-- The lower end of a margin. -/
def loM (r : PRules) (k : Nat) (b a : Int) (l : Nat) : Int := ((marL r (LS r) k b a).getD l default).1
/-- Whether a limit is one that was lifted. -/
def isLif (f t : Bool) (l : Nat) : Bool := (decide (l = 0) && f) || (decide (l = 1) && t)
theorem lif_same (hk : k < r.stands.length) {l : Nat} (hl : l < 4) (h : isLif f t l = false) : loM (lifR r k f t) k b a l = loM r k b a l := by
  unfold loM
  rw [lif_eq hk]
  match l, hl with
  | 0, _ => cases f with
    | false => rfl
    | true => simp [isLif] at h
  | 1, _ => cases t with
    | false => rfl
    | true => simp [isLif] at h
  | 2, _ => rfl
  | 3, _ => rfl
theorem lif_big (h : MHyp r k b a) {l : Nat} (hl : isLif f t l = true) : 0 ≤ loM (lifR r k f t) k b a l := by
  have hm := mbounds h
  unfold loM
  rw [lif_eq h.hk]
  match l with
  | 0 =>
    have : f = true := by simpa [isLif] using hl
    subst this
    simp only [List.getD_cons_zero, if_true]; omega
  | 1 =>
    have : t = true := by simpa [isLif] using hl
    subst this
    simp only [List.getD_cons_zero, List.getD_cons_succ, if_true]; omega
  | l + 2 => simp [isLif] at hl
theorem okS_iff {lims : List Nat} : okS r k b a lims = true ↔ ∀ l ∈ lims, 0 ≤ loM r k b a l := by
  unfold okS loM; rw [List.all_eq_true]; simp only [decide_eq_true_eq]
/-! what is reached -/
theorem fold_any {fr : List Bool} : ∀ {l : List (Nat × Nat)} {o : List Bool}, (∀ p ∈ l, p.2 < o.length) → ((l.foldl (stpR r T k fr) o).any (fun x => true == x) = true ↔ o.any (fun x => true == x) = true ∨ ∃ p ∈ l, stpB r T k fr p = true)
  | [], o, _ => by simp
  | p :: l, o, h => by
    rw [List.foldl_cons]
    have hp := h p (by simp)
    have hlen : (stpR r T k fr o p).length = o.length := by unfold stpR; split <;> simp
    rw [fold_any (fun q hq => by rw [hlen]; exact h q (by simp [hq]))]
    unfold stpR
    by_cases c : stpB r T k fr p = true
    · rw [if_pos c]
      constructor
      · intro _; exact Or.inr ⟨p, by simp, c⟩
      · intro _
        refine Or.inl (List.any_eq_true.2 ⟨true, ?_, rfl⟩)
        exact List.mem_set hp _
    · rw [if_neg c]
      constructor
      · rintro (h1 | ⟨q, hq, h2⟩)
        · exact Or.inl h1
        · exact Or.inr ⟨q, by simp [hq], h2⟩
      · rintro (h1 | ⟨q, hq, h2⟩)
        · exact Or.inl h1
        · rcases List.mem_cons.1 hq with rfl | hq
          · exact (c h2).elim
          · exact Or.inr ⟨q, hq, h2⟩
theorem reach_any {fr : List Bool} {lims : List Nat} : (reachV r T k fr lims).any (fun x => true == x) = true ↔ ∃ p ∈ setK r T k lims, stpB r T k fr p = true := by
  unfold reachV
  rw [fold_any (fun p hp => by simpa using (setK_mem.1 hp).2.1)]
  constructor
  · rintro (h | h)
    · exfalso
      obtain ⟨x, hx, h⟩ := List.any_eq_true.1 h
      have := List.eq_of_mem_replicate hx
      subst this; cases h
    · exact h
  · exact Or.inr
theorem blk_iff {fr : List Bool} {lims : List Nat} : blkV r T k fr lims = true ↔ ∀ p : Nat × Nat, p.1 ≤ p.2 → p.2 < T.length → okS r k (T.getD p.1 0) (T.getD p.2 0) lims = true → stpB r T k fr p = false := by
  unfold blkV
  rw [Bool.not_eq_true', Bool.eq_false_iff, Ne, reach_any]
  constructor
  · intro h p h1 h2 h3
    rw [Bool.eq_false_iff]
    exact fun h4 => h ⟨p, setK_mem.2 ⟨h1, h2, h3⟩, h4⟩
  · rintro h ⟨p, hp, h4⟩
    obtain ⟨h1, h2, h3⟩ := setK_mem.1 hp
    rw [h p h1 h2 h3] at h4; cases h4
/-- Limits that are kept by fewer settings block, too. -/
theorem blk_mono {r' : PRules} {fr : List Bool} {A B : List Nat} (hl : r'.stands.length = r.stands.length) (h : ∀ i q, i ≤ q → q < T.length → okS r' k (T.getD i 0) (T.getD q 0) B = true → okS r k (T.getD i 0) (T.getD q 0) A = true) (hA : blkV r T k fr A = true) : blkV r' T k fr B = true := by
  rw [blk_iff] at hA ⊢
  intro p h1 h2 h3
  have := hA p h1 h2 (h _ _ h1 h2 h3)
  unfold stpB at this ⊢
  rw [hl]; exact this
theorem lif_reach (hk : k < r.stands.length) (h : j ≠ k) {fr : List Bool} {lims : List Nat} : reachV (lifR r k f t) T j fr lims = reachV r T j fr lims := by
  have e1 : setK (lifR r k f t) T j lims = setK r T j lims := by
    have : ∀ b a, okS (lifR r k f t) j b a lims = okS r j b a lims := fun b a => by unfold okS; rw [lif_ne hk h]
    unfold setK
    simp only [this]
  have e2 : stpR (lifR r k f t) T j fr = stpR r T j fr := by
    funext o p; unfold stpR stpB; rw [lif_len]
  unfold reachV; rw [e1, e2]
theorem lif_fr (hk : k < r.stands.length) : ∀ {n : Nat}, n ≤ k → frN (lifR r k f t) T n = frN r T n
  | 0, _ => rfl
  | n + 1, h => by
    simp only [frN]
    rw [lif_fr hk (by omega), lif_reach hk (by omega)]
theorem lif_blk (hk : k < r.stands.length) {n : Nat} (h : n < k) : blkAt (lifR r k f t) T n = blkAt r T n := by
  unfold blkAt blkV
  rw [lif_fr hk (by omega), lif_reach hk (by omega)]
/-! the first stand that blocks -/
theorem blockAt_some : ∀ {n i : Nat} {p : Nat × List Nat}, blockAt r T i n = some p → i ≤ p.1 ∧ p.1 < i + n ∧ (∀ j, i ≤ j → j < p.1 → blkAt r T j = false) ∧ blkAt r T p.1 = true ∧ p.2 = exclV r T p.1 (frN r T p.1)
  | 0, _, _, h => by cases h
  | n + 1, i, p, h => by
    simp only [blockAt] at h
    by_cases c : blkAt r T i = true
    · rw [if_pos c] at h; cases h
      exact ⟨Nat.le_refl _, by dsimp only; omega, fun j h1 h2 => by dsimp only at h2; omega, c, rfl⟩
    · rw [if_neg c] at h
      obtain ⟨h1, h2, h3, h4, h5⟩ := blockAt_some h
      refine ⟨by omega, by omega, fun j j1 j2 => ?_, h4, h5⟩
      by_cases e : j = i
      · subst e; exact Bool.eq_false_iff.2 c
      · exact h3 j (by omega) j2
theorem blockAt_of : ∀ {n i k : Nat}, i ≤ k → k < i + n → (∀ j, i ≤ j → j < k → blkAt r T j = false) → blkAt r T k = true → blockAt r T i n = some (k, exclV r T k (frN r T k))
  | 0, _, _, h1, h2, _, _ => by omega
  | n + 1, i, k, h1, h2, h3, h4 => by
    simp only [blockAt]
    by_cases e : i = k
    · subst e; rw [if_pos h4]
    · rw [if_neg (by rw [h3 i (Nat.le_refl _) (by omega)]; simp)]
      exact blockAt_of (by omega) (by omega) (fun j j1 j2 => h3 j (by omega) j2) h4
/-! minimum sets -/
abbrev allS : List (List Nat) := subsL 1 ++ subsL 2 ++ subsL 3
theorem allS_sorted : allS.Pairwise (fun x y => x.length ≤ y.length) := by decide
theorem allS_erase : ∀ S ∈ allS ++ [[0, 1, 2, 3]], ∀ l ∈ S, S.erase l = [] ∨ S.erase l ∈ allS ∧ (S.erase l).length < S.length := by decide
theorem allS_ok : ∀ S ∈ allS ++ [[0, 1, 2, 3]], 1 ≤ S.length ∧ S.length ≤ 4 ∧ ∀ l ∈ S, l < 4 := by decide
theorem excl_mem {fr : List Bool} : exclV r T k fr ∈ allS ++ [[0, 1, 2, 3]] := by
  unfold exclV exclL
  cases h : allS.find? (blkV r T k fr) with
  | none => simp
  | some S =>
    exact List.mem_append_left _ (List.mem_of_find?_eq_some h)
theorem excl_blk {fr : List Bool} (h : blkV r T k fr allN = true) : blkV r T k fr (exclV r T k fr) = true := by
  unfold exclV exclL
  cases h1 : allS.find? (blkV r T k fr) with
  | none => exact h
  | some S =>
    exact List.find?_some h1
theorem excl_min {fr : List Bool} {S : List Nat} (h : S ∈ allS) (hl : S.length < (exclV r T k fr).length) : blkV r T k fr S = false := by
  unfold exclV exclL at hl
  rw [Bool.eq_false_iff]
  intro hb
  cases h1 : allS.find? (blkV r T k fr) with
  | none => exact (List.find?_eq_none.1 h1 S h) hb
  | some S' =>
    rw [show (subsL 1 ++ subsL 2 ++ subsL 3).find? (blkV r T k fr) = some S' from h1] at hl
    simp only [Option.getD_some] at hl
    obtain ⟨_, l1, l2, e, h2⟩ := List.find?_eq_some_iff_append.1 h1
    have hs := allS_sorted
    rw [e] at h hs
    rcases List.mem_append.1 h with h3 | h3
    · have := h2 S h3; rw [hb] at this; cases this
    · have hq := (List.pairwise_append.1 hs).2.1
      rcases List.mem_cons.1 h3 with rfl | h4
      · omega
      · have := (List.pairwise_cons.1 hq).1 S h4; omega
/-! no limit at all: never a block -/
theorem fr_len : ∀ {n : Nat}, (frN r T n).length = T.length
  | 0 => by simp [frN]
  | n + 1 => by
    simp only [frN]
    unfold reachV
    have : ∀ (l : List (Nat × Nat)) (o fr : List Bool), (l.foldl (stpR r T n fr) o).length = o.length := by
      intro l
      induction l with
      | nil => intro o fr; rfl
      | cons p l ih =>
        intro o fr
        rw [List.foldl_cons, ih]
        unfold stpR; split <;> simp
    rw [this]; simp
theorem fr_some (hT : 0 < T.length) : ∀ {n : Nat}, (∀ j, j < n → blkAt r T j = false) → ∃ q, q < T.length ∧ (frN r T n).getD q default = true
  | 0, _ => ⟨0, hT, by
      simp only [frN]
      rw [getD_set' (by simpa using hT), if_pos rfl]⟩
  | n + 1, h => by
    have h1 := h n (by omega)
    unfold blkAt blkV at h1
    have h2 : (frN r T (n + 1)).any (fun x => true == x) = true := by
      simp only [frN]
      simpa using h1
    obtain ⟨x, hx, h3⟩ := List.any_eq_true.1 h2
    obtain ⟨q, hq, rfl⟩ := List.getElem_of_mem hx
    rw [fr_len] at hq
    refine ⟨q, hq, ?_⟩
    rw [List.getD_eq_getElem?_getD, List.getElem?_eq_getElem (by rw [fr_len]; exact hq), Option.getD_some]
    revert h3; cases (frN r T (n + 1))[q]'(by rw [fr_len]; exact hq) <;> simp
theorem blk_nil {fr : List Bool} {q : Nat} (hq : q < T.length) (h : fr.getD q default = true) : blkV r T k fr [] = false := by
  rw [Bool.eq_false_iff, Ne, blk_iff]
  intro h1
  have := h1 (q, T.length - 1) (by dsimp only; omega) (by dsimp only; omega) rfl
  unfold stpB at this
  dsimp only at this
  rw [h] at this
  have e : (((T.length - 1 : Nat) : Int) == (T.length : Int) - 1) = true := by rw [beq_iff_eq]; omega
  rw [e] at this
  simp at this
/-- Before the last stand the temperature is named. -/
theorem excl_cold (hr : RulOk r) (hk : k + 1 < r.stands.length) {q : Nat} (hq : q < T.length) (h : (frN r T k).getD q default = true) (hb : blkAt r T k = true) : 3 ∈ exclV r T k (frN r T k) := by
  refine Classical.byContradiction fun hn => ?_
  have h1 := excl_blk hb
  have h2 := excl_mem (r := r) (T := T) (k := k) (fr := frN r T k)
  have h3 := (allS_ok _ h2).2.2
  rw [blk_iff] at h1
  have h4 := h1 (q, q) (Nat.le_refl _) hq (by
    rw [okS_iff]
    intro l hl
    have hl4 := h3 l hl
    have hst := hr.std k (by omega)
    have h5 := hst.force
    have h6 := hst.torque
    unfold loM marL
    match l, hl4, hl with
    | 0, _, _ => simp only [List.getD_cons_zero, mF, fcV, Int.sub_self, if_true]; omega
    | 1, _, _ => simp only [List.getD_cons_zero, List.getD_cons_succ, mT, fcV, Int.sub_self, if_true]; omega
    | 2, _, _ => simp only [List.getD_cons_zero, List.getD_cons_succ, mB, gripV, Int.sub_self, if_true]; omega
    | 3, _, hl => exact (hn hl).elim)
  unfold stpB at h4
  dsimp only at h4
  rw [h] at h4
  have e : (((k : Nat) : Int) == (r.stands.length : Int) - 1) = false := by rw [beq_eq_false_iff_ne]; omega
  rw [e] at h4
  simp at h4
/-- If limits are lifted that are not named, the same stand blocks. -/
theorem others_same (hk : k < r.stands.length) (h : blockAt r T 0 r.stands.length = some (k, exclV r T k (frN r T k))) (hn : ∀ l ∈ exclV r T k (frN r T k), isLif f t l = false) : ∃ S, blockAt (lifR r k f t) T 0 r.stands.length = some (k, S) := by
  obtain ⟨_, _, h3, h4, _⟩ := blockAt_some h
  refine ⟨_, blockAt_of (Nat.zero_le _) (by omega) (fun j j1 j2 => ?_) ?_⟩
  · rw [lif_blk hk j2]; exact h3 j j1 j2
  · unfold blkAt
    rw [lif_fr hk (Nat.le_refl _)]
    have h5 := excl_mem (r := r) (T := T) (k := k) (fr := frN r T k)
    have h6 := (allS_ok _ h5).2.2
    refine blk_mono lif_len (fun i q h1 h2 h7 => ?_) (excl_blk h4)
    rw [okS_iff] at h7 ⊢
    intro l hl
    rw [← lif_same (f := f) (t := t) hk (h6 l hl) (hn l hl)]
    have := h6 l hl
    exact h7 l (by match l, this with
      | 0, _ => decide
      | 1, _ => decide
      | 2, _ => decide
      | 3, _ => decide)
/-- If limits are lifted, none of them is named at this stand. -/
theorem lifted_none {n : Nat} {S : List Nat} (hr : RulOk r) (hL : GL r T) (hk : k < r.stands.length) (h : blockAt (lifR r k f t) T 0 n = some (k, S)) : ∀ l ∈ S, isLif f t l = false := by
  obtain ⟨_, _, h3, h4, h5⟩ := blockAt_some h
  dsimp only at h3 h4 h5
  intro l hl
  rw [Bool.eq_false_iff]
  intro hc
  obtain ⟨q, hq, hq2⟩ := fr_some (r := lifR r k f t) hL.ne (n := k) (fun j hj => h3 j (Nat.zero_le _) hj)
  have h6 := excl_mem (r := lifR r k f t) (T := T) (k := k) (fr := frN (lifR r k f t) T k)
  rw [← h5] at h6
  have hb := excl_blk h4
  rw [← h5] at hb
  have h7 : blkV (lifR r k f t) T k (frN (lifR r k f t) T k) (S.erase l) = true := by
    refine blk_mono rfl (fun i q h1 h2 h8 => ?_) hb
    rw [okS_iff] at h8 ⊢
    intro m hm
    by_cases e : m = l
    · subst e; exact lif_big (hL.mh hr hk h1 h2) hc
    · exact h8 m ((List.mem_erase_of_ne e).2 hm)
  rcases allS_erase S h6 l hl with h8 | ⟨h8, h9⟩
  · rw [h8, blk_nil hq hq2] at h7; cases h7
  · have h10 := excl_min (r := lifR r k f t) (T := T) (k := k) (fr := frN (lifR r k f t) T k) h8 (by rw [← h5]; exact h9)
    rw [h10] at h7; cases h7
end
abbrev cI (S : List Nat) : List Int := S.map fun (x : Nat) => (x : Int)
def allV (A : List Int) : Bool := A.all fun x => x == 0 || x == 1
theorem any_cI {S : List Nat} {l : Nat} : (cI S).any (fun x => x == (l : Int)) = true ↔ l ∈ S := by
  rw [List.any_eq_true]
  constructor
  · rintro ⟨x, hx, h⟩
    obtain ⟨m, hm, rfl⟩ := List.mem_map.1 hx
    rw [beq_iff_eq] at h
    rw [show l = m by omega]; exact hm
  · intro h
    exact ⟨(l : Int), List.mem_map.2 ⟨l, h, rfl⟩, by simp⟩
theorem others_none {S : List Nat} {f t : Bool} (hf : (cI S).any (fun x => x == 0) = f) (ht : (cI S).any (fun x => x == 1) = t) : ∀ l ∈ S, isLif (!f) (!t) l = false := by
  intro l hl
  have h := any_cI.2 hl
  match l with
  | 0 => rw [show ((0 : Nat) : Int) = 0 from rfl, hf] at h; subst h; rfl
  | 1 => rw [show ((1 : Nat) : Int) = 1 from rfl, ht] at h; subst h; rfl
  | l + 2 => simp [isLif]
theorem lifted_fin {S S3 : List Nat} {f t : Bool} (hf : (cI S).any (fun x => x == 0) = f) (ht : (cI S).any (fun x => x == 1) = t) (h : ∀ l ∈ S3, isLif f t l = false) (ha : allV (cI S) = true) {i : Nat} (hi : i < (cI S3).length) : (cI S).any (fun x => x == (cI S3).getD i 0) = false := by
  rw [Bool.eq_false_iff]
  intro hc
  rw [List.length_map] at hi
  have e : (cI S3).getD i 0 = ((S3.getD i 0 : Nat) : Int) := by
    simp [cI, List.getD_eq_getElem?_getD, List.getElem?_eq_getElem hi]
  have hm : S3.getD i 0 ∈ S3 := by
    rw [List.getD_eq_getElem?_getD, List.getElem?_eq_getElem hi]; exact List.getElem_mem hi
  have h3 := h _ hm
  rw [e] at hc
  have h1 := any_cI.1 hc
  generalize S3.getD i 0 = l at *
  unfold allV at ha
  have h2 := List.all_eq_true.1 ha (l : Int) (List.mem_map.2 ⟨l, h1, rfl⟩)
  simp only [Bool.or_eq_true, beq_iff_eq] at h2
  rcases h2 with h2 | h2
  · have : l = 0 := by omega
    subst this
    rw [show ((0 : Nat) : Int) = 0 from rfl, hf] at hc; subst hc
    simp [isLif] at h3
  · have : l = 1 := by omega
    subst this
    rw [show ((1 : Nat) : Int) = 1 from rfl, ht] at hc; subst hc
    simp [isLif] at h3
/-- The loop's word. -/
def allN' (A : List Int) (n : Nat) : Bool := (A.take n).all fun x => x == 0 || x == 1
theorem all_succ {A : List Int} {n : Nat} (h : n < A.length) : allN' A (n + 1) = (allN' A n && (A.getD n 0 == 0 || A.getD n 0 == 1)) := by
  unfold allN'
  rw [takeS 0 h, List.all_append, List.all_cons, List.all_nil, Bool.and_true]
theorem all_end {A : List Int} : allN' A A.length = allV A := by unfold allN' allV; rw [List.take_length]
theorem any_at {xs : List Int} {i : Nat} {v : Int} (h : i < xs.length) (hv : (xs.getD i 0 == v) = true) : (xs.any fun x => x == v) = true := by
  refine List.any_eq_true.2 ⟨xs.getD i 0, ?_, hv⟩
  rw [List.getD_eq_getElem?_getD, List.getElem?_eq_getElem h]; exact List.getElem_mem h
theorem any_no {xs : List Int} {v : Int} (h : ∀ j, j < xs.length → (xs.getD j 0 == v) = false) : (xs.any fun x => x == v) = false := by
  rw [List.any_eq_false]
  intro x hx
  obtain ⟨j, hj, rfl⟩ := List.getElem_of_mem hx
  have := h j hj
  rw [List.getD_eq_getElem?_getD, List.getElem?_eq_getElem hj] at this
  simpa using this
theorem lif_std {r : PRules} {k : Nat} {f t : Bool} : (lifR r k f t).stands.map stdV = (r.stands.map stdV).set k (stdV (lifS f t (r.stands.getD k default))) := by unfold lifR; rw [List.map_set]
theorem lif_id {r : PRules} {k : Nat} (hk : k < r.stands.length) : lifR r k false false = r := by
  have e : r.stands.set k (lifS false false (r.stands.getD k default)) = r.stands := by
    have h1 : lifS false false (r.stands.getD k default) = r.stands[k] := by
      rw [List.getD_eq_getElem?_getD, List.getElem?_eq_getElem hk]; rfl
    rw [h1, List.set_getElem_self]
  unfold lifR; rw [e]
end Go.Vm
