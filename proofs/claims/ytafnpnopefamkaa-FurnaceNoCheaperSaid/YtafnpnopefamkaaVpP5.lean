import Derived.Test.YtafnpnopefamkaaVpP1
set_option linter.all false
namespace Go.Vm
open Go.Proofs
def chs (S : List (List Int)) : Nat → List Int → List (List Int)
  | 0, l => [l]
  | d + 1, l => (List.range (S.getD l.length default).length).flatMap fun (n : Nat) => chs S d (l ++ [(n : Int)])
def preC (S : List (List Int)) (d : Nat) (l : List Int) (j : Nat) : List (List Int) := (List.range j).flatMap fun (n : Nat) => chs S d (l ++ [(n : Int)])
theorem preC_succ {S : List (List Int)} {d j : Nat} {l : List Int} : preC S d l (j + 1) = preC S d l j ++ chs S d (l ++ [(j : Int)]) := by
  unfold preC; rw [List.range_succ, List.flatMap_append]; simp
theorem preC_more {S : List (List Int)} {d j : Nat} {l : List Int} : ∀ {m : Nat}, j ≤ m → ∃ r, preC S d l m = preC S d l j ++ r
  | 0, h => by obtain rfl : j = 0 := by omega
               exact ⟨[], (List.append_nil _).symm⟩
  | m + 1, h => by
    by_cases e : j = m + 1
    · subst e; exact ⟨[], (List.append_nil _).symm⟩
    · obtain ⟨r, hr⟩ := preC_more (S := S) (d := d) (l := l) (j := j) (m := m) (by omega)
      exact ⟨r ++ chs S d (l ++ [(m : Int)]), by rw [preC_succ, hr, List.append_assoc]⟩
theorem chs_succ {S : List (List Int)} {d : Nat} {l : List Int} : chs S (d + 1) l = preC S d l (S.getD l.length default).length := rfl
theorem preC_get {S : List (List Int)} {d j m k : Nat} {l c : List Int} (h : j < m) (hk : (chs S d (l ++ [(j : Int)]))[k]? = some c) : (preC S d l m)[(preC S d l j).length + k]? = some c := by
  obtain ⟨r, hr⟩ := preC_more (S := S) (d := d) (l := l) (j := j + 1) (m := m) (by omega)
  rw [hr, preC_succ, List.append_assoc, List.getElem?_append_right (by omega), Nat.add_sub_cancel_left]
  have hlt : k < (chs S d (l ++ [(j : Int)])).length := by
    rcases Nat.lt_or_ge k (chs S d (l ++ [(j : Int)])).length with q | q
    · exact q
    · rw [List.getElem?_eq_none q] at hk; cases hk
  rw [List.getElem?_append_left hlt]; exact hk
theorem getD_app {l : List Int} {n : Int} {i : Nat} : (l ++ [n]).getD i 0 = if i < l.length then l.getD i 0 else if i = l.length then n else 0 := by
  rw [List.getD_eq_getElem?_getD, List.getD_eq_getElem?_getD]
  by_cases h : i < l.length
  · rw [if_pos h, List.getElem?_append_left h]
  · rw [if_neg h, List.getElem?_append_right (by omega)]
    by_cases e : i = l.length
    · rw [if_pos e, e, Nat.sub_self]; rfl
    · rw [if_neg e, List.getElem?_eq_none (by simp; omega)]; rfl
def begO (S : List (List Int)) (l : List Int) : Prop := ∀ i, i < l.length → 0 ≤ l.getD i 0 ∧ (l.getD i 0).toNat < (S.getD i default).length
theorem beg_snoc {S : List (List Int)} {l : List Int} {n : Nat} (h : begO S l) (hn : n < (S.getD l.length default).length) : begO S (l ++ [(n : Int)]) := fun i hi => by
  rw [List.length_append, List.length_singleton] at hi
  rw [getD_app]
  by_cases e : i < l.length
  · rw [if_pos e]; exact h i e
  · obtain rfl : i = l.length := by omega
    rw [if_neg e, if_pos rfl]; exact ⟨by omega, by omega⟩
theorem chs_mem {S : List (List Int)} : ∀ {d : Nat} {l : List Int}, begO S l → ∀ c ∈ chs S d l, c.length = l.length + d ∧ begO S c
  | 0, l, h, c, hc => by rw [chs, List.mem_singleton] at hc; subst hc; exact ⟨rfl, h⟩
  | d + 1, l, h, c, hc => by
    rw [chs, List.mem_flatMap] at hc
    obtain ⟨n, hn, hc⟩ := hc
    obtain ⟨a, b⟩ := chs_mem (beg_snoc h (List.mem_range.1 hn)) c hc
    rw [List.length_append, List.length_singleton] at a
    exact ⟨by omega, b⟩
abbrev allC (x : Fue) : List (List Int) := chs x.sets x.sets.length []
theorem all_cho {x : Fue} {c : List Int} (h : c ∈ allC x) : ChoOk x c := by
  obtain ⟨a, b⟩ := chs_mem (S := x.sets) (fun i hi => absurd hi (by simp)) c h
  rw [List.length_nil, Nat.zero_add] at a
  exact ⟨a, b⟩
theorem cho_err {x : Fue} {c : List Int} (h : ChoOk x c) : choE x c = 0 := by
  unfold choE
  rw [if_neg (fun k => k h.len)]
  have hz : ∀ k i, i + k = c.length → scanF (chI x c) k i = 0 := fun k => by
    induction k with
    | zero => intro _ _; rfl
    | succ k ih =>
      intro i hi
      have h1 := h.idx i (by omega)
      have : chI x c i = 0 := by unfold chI; rw [if_pos (wiB.2 ⟨h1.1, by omega⟩)]
      rw [scanF, if_neg (fun q => q this)]; exact ih _ (by omega)
  exact hz _ _ (by omega)
def cntN (x : Fue) : Nat → Nat
  | 0 => 1
  | i + 1 => cntN x i * (x.sets.getD i default).length
abbrev cntF (x : Fue) : Nat := cntN x x.sets.length
def prd (S : List (List Int)) : Nat → Nat → Nat
  | 0, _ => 1
  | d + 1, i => (S.getD i default).length * prd S d (i + 1)
theorem flat_const {α β : Type} {f : α → List β} {n : Nat} : ∀ {l : List α}, (∀ a ∈ l, (f a).length = n) → (l.flatMap f).length = l.length * n
  | [], _ => by simp
  | a :: l, h => by
    rw [List.flatMap_cons, List.length_append, h a (List.mem_cons_self ..), flat_const (fun b hb => h b (List.mem_cons_of_mem _ hb)), List.length_cons, Nat.succ_mul]; omega
theorem chs_len {S : List (List Int)} : ∀ {d : Nat} {l : List Int}, (chs S d l).length = prd S d l.length
  | 0, l => rfl
  | d + 1, l => by
    rw [chs, flat_const (n := prd S d (l.length + 1)) (fun n _ => by rw [chs_len, List.length_append, List.length_singleton]), List.length_range]; rfl
theorem cnt_prd {x : Fue} : ∀ {d i : Nat}, i + d = x.sets.length → cntN x i * prd x.sets d i = cntF x
  | 0, i, h => by
    obtain rfl : i = x.sets.length := by omega
    rw [prd, Nat.mul_one]
  | d + 1, i, h => by
    rw [prd, ← Nat.mul_assoc]
    exact cnt_prd (i := i + 1) (by omega)
theorem all_len {x : Fue} : (allC x).length = cntF x := by
  rw [chs_len, ← cnt_prd (x := x) (d := x.sets.length) (i := 0) (by omega)]
  show prd _ _ _ = 1 * _
  rw [Nat.one_mul]; rfl
theorem cnt_le {x : Fue} (h : FueOk x) : ∀ {i : Nat}, i ≤ x.sets.length → 1 ≤ cntN x i ∧ cntN x i ≤ 4 ^ i
  | 0, _ => by simp [cntN]
  | i + 1, hi => by
    obtain ⟨a, b⟩ := cnt_le h (i := i) (by omega)
    obtain ⟨c, d⟩ := (h.set i (by omega)).len
    rw [cntN, Nat.pow_succ]
    exact ⟨Nat.mul_pos (by omega) (by omega), Nat.mul_le_mul b d⟩
theorem cnt_big {x : Fue} (h : FueOk x) : 1 ≤ cntF x ∧ cntF x ≤ 1024 := by
  obtain ⟨a, b⟩ := cnt_le h (Nat.le_refl _)
  have k : 4 ^ x.sets.length ≤ 4 ^ 5 := Nat.pow_le_pow_right (by omega) h.len.2
  exact ⟨a, Nat.le_trans b k⟩
def stepC (x : Fue) (ok : List Int → Bool) (o : Option (List Int)) (c : List Int) : Option (List Int) :=
  match o with
  | none => if ok c = true then some c else none
  | some b => if (decide (fuN x c c.length < fuN x b b.length) && ok c) = true then some c else some b
def bstN (x : Fue) (ok : List Int → Bool) (C : List (List Int)) (n : Nat) : Option (List Int) := (C.take n).foldl (stepC x ok) none
theorem bstN_succ {x : Fue} {ok : List Int → Bool} {C : List (List Int)} {n : Nat} {c : List Int} (h : C[n]? = some c) : bstN x ok C (n + 1) = stepC x ok (bstN x ok C n) c := by
  unfold bstN; rw [List.take_add_one, h]; simp
theorem bstN_mem {x : Fue} {ok : List Int → Bool} {C : List (List Int)} : ∀ {n : Nat} {b : List Int}, bstN x ok C n = some b → b ∈ C ∧ ok b = true
  | 0, b, h => by simp [bstN] at h
  | n + 1, b, h => by
    rcases hc : C[n]? with _ | c
    · have : C.take (n + 1) = C.take n := by rw [List.take_add_one, hc]; simp
      unfold bstN at h
      rw [this] at h
      exact bstN_mem (n := n) h
    · rw [bstN_succ hc] at h
      rcases ho : bstN x ok C n with _ | o
      · rw [ho, stepC] at h
        split at h
        · cases h; exact ⟨List.mem_of_getElem? hc, by assumption⟩
        · cases h
      · rw [ho, stepC] at h
        have ih := bstN_mem (n := n) ho
        split at h
        · rename_i q
          cases h
          rw [Bool.and_eq_true] at q
          exact ⟨List.mem_of_getElem? hc, q.2⟩
        · cases h; exact ih
abbrev bstF (x : Fue) (ok : List Int → Bool) : Option (List Int) := bstN x ok (allC x) (allC x).length
theorem bstN_le {x : Fue} {ok : List Int → Bool} {C : List (List Int)} : ∀ {n : Nat}, ∀ c ∈ C.take n, ok c = true → ∃ b, bstN x ok C n = some b ∧ fuN x b b.length ≤ fuN x c c.length
  | 0, c, h, _ => by simp at h
  | n + 1, c, h, hk => by
    rcases hc : C[n]? with _ | a
    · have e : C.take (n + 1) = C.take n := by rw [List.take_add_one, hc]; simp
      rw [e] at h
      obtain ⟨b, h1, h2⟩ := bstN_le (n := n) c h hk
      refine ⟨b, ?_, h2⟩
      unfold bstN at h1 ⊢; rw [e]; exact h1
    · rw [List.take_add_one, hc] at h
      rw [bstN_succ hc]
      have h : c ∈ C.take n ∨ c = a := by simpa using h
      rcases ho : bstN x ok C n with _ | o
      · rcases h with h | h
        · obtain ⟨b, h1, _⟩ := bstN_le (n := n) c h hk
          rw [ho] at h1; cases h1
        · subst h; exact ⟨c, by rw [stepC, if_pos hk], Int.le_refl _⟩
      · by_cases q : (decide (fuN x a a.length < fuN x o o.length) && ok a) = true
        · refine ⟨a, by rw [stepC, if_pos q], ?_⟩
          have q1 := of_decide_eq_true (Bool.and_eq_true_iff.1 q).1
          rcases h with h | h
          · obtain ⟨b, h1, h2⟩ := bstN_le (n := n) c h hk
            rw [ho] at h1; cases h1; omega
          · subst h; exact Int.le_refl _
        · refine ⟨o, by rw [stepC, if_neg q], ?_⟩
          rcases h with h | h
          · obtain ⟨b, h1, h2⟩ := bstN_le (n := n) c h hk
            rw [ho] at h1; cases h1; exact h2
          · subst h
            rw [hk, Bool.and_true, decide_eq_true_eq] at q
            omega
end Go.Vm
