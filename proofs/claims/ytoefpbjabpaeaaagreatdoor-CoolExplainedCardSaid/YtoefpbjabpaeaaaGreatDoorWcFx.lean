import Derived.Test.YtoefpbjabpaeaaaGreatDoorWcFs
import Derived.Test.YtoefpbjabpaeaaaGreatDoorWcPe
set_option linter.all false
/- Faults in their order: any faults have the same effect as some set of faults in its order with no more of them; what has the least size: plain. -/
namespace Go.Vm
open Go.Proofs
def canF (F : Flt) (n : Nat) : Nat → Flt
  | 0 => []
  | d + 1 => match F.find? (fun f => f.1 == ((n - d - 1 : Nat) : Int)) with
    | some f => (((n - d - 1 : Nat) : Int), f.2) :: canF F n d
    | none => canF F n d
theorem canF_some {F : Flt} {n d : Nat} {f : Int × Bool} (h : F.find? (fun f => f.1 == ((n - d - 1 : Nat) : Int)) = some f) : canF F n (d + 1) = (((n - d - 1 : Nat) : Int), f.2) :: canF F n d := by
  simp only [canF]; rw [h]
theorem canF_none {F : Flt} {n d : Nat} (h : F.find? (fun f => f.1 == ((n - d - 1 : Nat) : Int)) = none) : canF F n (d + 1) = canF F n d := by
  simp only [canF]; rw [h]
theorem canF_mem {F : Flt} {n : Nat} : ∀ {d : Nat}, canF F n d ∈ allL n d
  | 0 => List.mem_cons_self ..
  | d + 1 => by
    have ih := canF_mem (F := F) (n := n) (d := d)
    cases h : F.find? (fun f => f.1 == ((n - d - 1 : Nat) : Int)) with
    | some f =>
      rw [canF_some h]
      refine List.mem_cons_of_mem _ ?_
      rw [allT_succ, List.mem_append, List.mem_append]
      cases o : f.2 with
      | false => exact .inl (List.mem_map.2 ⟨_, ih, rfl⟩)
      | true => exact .inr (.inl (List.mem_map.2 ⟨_, ih, rfl⟩))
    | none =>
      rw [canF_none h]
      rcases List.mem_cons.1 ih with e | e
      · rw [e]; exact List.mem_cons_self ..
      · refine List.mem_cons_of_mem _ ?_
        rw [allT_succ, List.mem_append, List.mem_append]
        exact .inr (.inr e)
theorem stepF_has {s c : Nat} {f : Int × Bool} (hs : s < 16) (hf : 0 ≤ f.1 ∧ f.1 < 4) (hc : c < 4) : hasB (stepF s f) c = if f.1 = (c : Int) then f.2 else hasB s c := by
  obtain ⟨b, hb⟩ : ∃ b : Nat, f.1 = (b : Int) := ⟨f.1.toNat, by omega⟩
  unfold stepF
  rw [hb, Int.toNat_natCast]
  have e : ((b : Int) = (c : Int)) = (c = b) := by apply propext; omega
  cases o : f.2 with
  | true => rw [if_pos rfl, or_hasF s hs b (by omega) c hc]; simp only [e]
  | false => rw [if_neg (by decide), clr_hasF s hs b (by omega) c hc]; simp only [e]
theorem stepF_16 {s : Nat} {f : Int × Bool} (hs : s < 16) (hf : 0 ≤ f.1 ∧ f.1 < 4) : stepF s f < 16 := stepF_lt (n := 4) hs hf
def lookF (F : Flt) (c : Nat) (o : Bool) : Bool := match F.find? (fun f => f.1 == (c : Int)) with
  | some f => f.2
  | none => o
theorem flt_can {F : Flt} {n : Nat} (h4 : n ≤ 4) {c : Nat} (hc : c < 4) : ∀ {d : Nat}, d ≤ n → ∀ {s : Nat}, s < 16 → hasB (fltS s (canF F n d)) c = if n - d ≤ c ∧ c < n then lookF F c (hasB s c) else hasB s c
  | 0, _, s, hs => by
    rw [if_neg (by omega)]; rfl
  | d + 1, hd, s, hs => by
    have ih := fun {s : Nat} (hs : s < 16) => flt_can (F := F) h4 hc (d := d) (by omega) hs
    cases h : F.find? (fun f => f.1 == ((n - d - 1 : Nat) : Int)) with
    | some f =>
      have hb : 0 ≤ (((n - d - 1 : Nat) : Int), f.2).1 ∧ (((n - d - 1 : Nat) : Int), f.2).1 < 4 := ⟨by simp only; omega, by simp only; omega⟩
      rw [canF_some h]
      show hasB (fltS (stepF s (((n - d - 1 : Nat) : Int), f.2)) (canF F n d)) c = _
      rw [ih (stepF_16 hs hb), stepF_has hs hb hc]
      by_cases e : c = n - d - 1
      · subst e
        have pe : ((((n - d - 1 : Nat) : Int), f.2) : Int × Bool).1 = ((n - d - 1 : Nat) : Int) := rfl
        rw [if_pos pe, if_neg (show ¬ (n - d ≤ n - d - 1 ∧ n - d - 1 < n) by omega), if_pos (show n - (d + 1) ≤ n - d - 1 ∧ n - d - 1 < n by omega)]
        unfold lookF; rw [h]
      · have ne : ¬ ((((n - d - 1 : Nat) : Int), f.2) : Int × Bool).1 = (c : Int) := by show ¬ ((n - d - 1 : Nat) : Int) = (c : Int); omega
        rw [if_neg ne]
        by_cases g : n - d ≤ c ∧ c < n
        · rw [if_pos g, if_pos (by omega)]
        · rw [if_neg g, if_neg (by omega)]
    | none =>
      rw [canF_none h, ih hs]
      by_cases e : c = n - d - 1
      · subst e
        rw [if_neg (by omega), if_pos (by omega)]
        unfold lookF; rw [h]
      · by_cases g : n - d ≤ c ∧ c < n
        · rw [if_pos g, if_pos (by omega)]
        · rw [if_neg g, if_neg (by omega)]
theorem flt_look {c : Nat} (hc : c < 4) : ∀ {F : Flt}, inF 4 F → F.Pairwise (fun a b => a.1 ≠ b.1) → ∀ {s : Nat}, s < 16 → hasB (fltS s F) c = lookF F c (hasB s c)
  | [], _, _, s, hs => rfl
  | f :: F, hF, hd, s, hs => by
    have hf := hF f (List.mem_cons_self ..)
    rw [List.pairwise_cons] at hd
    show hasB (fltS (stepF s f) F) c = _
    rw [flt_look hc (fun g hg => hF g (List.mem_cons_of_mem _ hg)) hd.2 (stepF_16 hs hf), stepF_has hs hf hc]
    unfold lookF
    by_cases e : f.1 = (c : Int)
    · have n1 : F.find? (fun g => g.1 == (c : Int)) = none := by
        rw [List.find?_eq_none]; intro g hg k
        exact hd.1 g hg (by rw [e, beq_iff_eq.1 k])
      rw [n1, if_pos e, List.find?_cons_of_pos (by simpa using e)]
    · rw [if_neg e, List.find?_cons_of_neg (by simpa using e)]
theorem look_out {F : Flt} {n c : Nat} {o : Bool} (h : inF n F) (hc : n ≤ c) : lookF F c o = o := by
  unfold lookF
  have n1 : F.find? (fun g => g.1 == (c : Int)) = none := by
    rw [List.find?_eq_none]; intro g hg k
    have := h g hg; have := beq_iff_eq.1 k; omega
  rw [n1]
/-- The same effect. -/
theorem can_same {F : Flt} {n s : Nat} (h4 : n ≤ 4) (hF : inF n F) (hd : F.Pairwise (fun a b => a.1 ≠ b.1)) (hs : s < 2 ^ n) : fltS s (canF F n n) = fltS s F := by
  have h16 := pw16 h4
  have hin : inF n (canF F n n) := allL_in (Nat.le_refl _) canF_mem
  have h1 := fltS_lt hs hin
  have h2 := fltS_lt hs hF
  refine bits_ext _ (by omega) _ (by omega) fun c hc => ?_
  rw [flt_can h4 hc (Nat.le_refl n) (by omega), flt_look hc (fun f hf => by have := hF f hf; omega) hd (by omega)]
  by_cases g : c < n
  · rw [if_pos (by omega)]
  · rw [if_neg (by omega), look_out hF (by omega)]
theorem filter_split {α : Type} {p q r : α → Bool} : ∀ {l : List α}, (∀ a ∈ l, p a = (q a || r a) ∧ (q a && r a) = false) → (l.filter p).length = (l.filter q).length + (l.filter r).length
  | [], _ => rfl
  | a :: l, h => by
    have ih := filter_split (l := l) (fun b hb => h b (List.mem_cons_of_mem _ hb))
    obtain ⟨h1, h2⟩ := h a (List.mem_cons_self ..)
    rw [List.filter_cons, List.filter_cons, List.filter_cons, h1]
    cases hq : q a <;> cases hr : r a <;> rw [hq, hr] at h2 <;> simp at h2 ⊢ <;> omega
theorem can_len {F : Flt} {n : Nat} : ∀ {d : Nat}, d ≤ n → (canF F n d).length ≤ (F.filter fun f => decide (((n - d : Nat) : Int) ≤ f.1 ∧ f.1 < (n : Int))).length
  | 0, _ => Nat.zero_le _
  | d + 1, hd => by
    have ih := can_len (F := F) (n := n) (d := d) (by omega)
    have sp := filter_split (l := F) (p := fun f => decide (((n - (d + 1) : Nat) : Int) ≤ f.1 ∧ f.1 < (n : Int))) (q := fun f => decide (((n - d : Nat) : Int) ≤ f.1 ∧ f.1 < (n : Int))) (r := fun f => f.1 == ((n - d - 1 : Nat) : Int)) (fun a _ => by
      constructor
      · rw [Bool.eq_iff_iff, Bool.or_eq_true, decide_eq_true_eq, decide_eq_true_eq, beq_iff_eq]; omega
      · rw [Bool.eq_false_iff, Ne, Bool.and_eq_true, decide_eq_true_eq, beq_iff_eq]; omega)
    cases h : F.find? (fun f => f.1 == ((n - d - 1 : Nat) : Int)) with
    | some f =>
      rw [canF_some h, List.length_cons, sp]
      have hp := List.find?_some h
      have hm : f ∈ F.filter (fun f => f.1 == ((n - d - 1 : Nat) : Int)) := List.mem_filter.2 ⟨List.mem_of_find?_eq_some h, hp⟩
      have := List.length_pos_of_mem hm
      omega
    | none => rw [canF_none h, sp]; omega
theorem can_le {F : Flt} {n : Nat} : (canF F n n).length ≤ F.length := Nat.le_trans (can_len (Nat.le_refl n)) (List.length_filter_le ..)
theorem dst_of {F : Flt} (h : ∀ i, i < F.length → ((F.take i).any fun g => g.1 == (F.getD i default).1) = false) : F.Pairwise (fun a b => a.1 ≠ b.1) := by
  rw [List.pairwise_iff_getElem]
  intro i j hi hj hij e
  have h1 := h j hj
  rw [List.any_eq_false] at h1
  refine h1 F[i] (List.mem_take_iff_getElem.2 ⟨i, by omega, rfl⟩) ?_
  rw [show F.getD j default = F[j] by simp [List.getD, hj], e]
  exact beq_self_eq_true _
/-! sets of faults in their order are valid -/
theorem all_sort {n : Nat} : ∀ {d : Nat}, d ≤ n → ∀ {G : Flt}, G ∈ allL n d → G.Pairwise (fun a b => a.1 ≠ b.1) ∧ ∀ f ∈ G, ((n - d : Nat) : Int) ≤ f.1
  | 0, _, G, h => by
    rcases List.mem_cons.1 h with rfl | h
    · exact ⟨.nil, fun f hf => by cases hf⟩
    · cases h
  | d + 1, hd, G, h => by
    have ih := fun {g : Flt} (hg : g ∈ allL n d) => all_sort (n := n) (d := d) (by omega) hg
    have one : ∀ {o : Bool} {g : Flt}, g ∈ allL n d → ((((n - d - 1 : Nat) : Int), o) :: g).Pairwise (fun a b => a.1 ≠ b.1) ∧ ∀ f ∈ (((n - d - 1 : Nat) : Int), o) :: g, ((n - (d + 1) : Nat) : Int) ≤ f.1 := fun {o g} hg => by
      obtain ⟨i1, i2⟩ := ih hg
      refine ⟨List.pairwise_cons.2 ⟨fun f hf => ?_, i1⟩, fun f hf => ?_⟩
      · have := i2 f hf; simp only; omega
      · rcases List.mem_cons.1 hf with rfl | hf
        · simp only; omega
        · have := i2 f hf; omega
    rcases List.mem_cons.1 h with rfl | h
    · exact ⟨.nil, fun f hf => by cases hf⟩
    · rw [allT_succ, List.mem_append, List.mem_append] at h
      rcases h with h | h | h
      · obtain ⟨g, hg, rfl⟩ := List.mem_map.1 h; exact one hg
      · obtain ⟨g, hg, rfl⟩ := List.mem_map.1 h; exact one hg
      · obtain ⟨i1, i2⟩ := ih (List.mem_cons_of_mem _ h)
        exact ⟨i1, fun f hf => by have := i2 f hf; omega⟩
theorem scanI_allZ {α : Type} {e : Nat → α → Int} {l : List α} (d : α) (h : ∀ i, i < l.length → e i (l.getD i d) = 0) : scanI e 0 l = 0 := by
  have key : ∀ (n i : Nat), l.length - i = n → scanI e i (l.drop i) = 0 := by
    intro n
    induction n with
    | zero => intro i hi; exact scanI_end (by omega)
    | succ n ih =>
      intro i hi
      rw [scanI_go d (by omega) (h i (by omega))]
      exact ih (i + 1) (by omega)
  have := key l.length 0 (by omega)
  rwa [List.drop_zero] at this
theorem all_valid {t : CTab} {G : Flt} (h4 : t.banks.length ≤ 4) (h : G ∈ allL t.banks.length t.banks.length) (hl : G.length ≤ 4) : fesE t G = 0 := by
  obtain ⟨h1, h2⟩ := all_sort (Nat.le_refl _) h
  have hin := allL_in (Nat.le_refl _) h
  rw [List.pairwise_iff_getElem] at h1
  unfold fesE
  rw [if_neg (by omega)]
  refine scanI_allZ default fun i hi => ?_
  have e : G.getD i default = G[i] := by simp [List.getD, hi]
  have hb := hin G[i] (List.getElem_mem hi)
  have w : withinV (G.getD i default).1 0 ((t.banks.length : Int) - 1) = true := wi2.2 (by rw [e]; omega)
  have a : ((G.take i).any fun g => g.1 == (G.getD i default).1) = false := by
    rw [List.any_eq_false]
    intro g hg k
    obtain ⟨j, hj, rfl⟩ := List.mem_take_iff_getElem.1 hg
    rw [e] at k
    exact h1 j i (by omega) hi (by omega) (beq_iff_eq.1 k)
  unfold fonE; rw [w, a]; rfl
/-! the first size that has any -/
theorem fnd_first {E : Nat → List Flt} {G : Flt} {j : Nat} (hG : G ∈ E j) : ∀ {m k : Nat}, k ≤ j → j < k + m → ∃ k0, k ≤ k0 ∧ k0 ≤ j ∧ fndF E m k = E k0 ∧ 0 < (E k0).length
  | 0, k, h1, h2 => absurd h2 (by omega)
  | m + 1, k, h1, h2 => by
    unfold fndF
    by_cases c : 0 < (E k).length
    · rw [if_pos c]; exact ⟨k, Nat.le_refl _, h1, rfl, c⟩
    · rw [if_neg c]
      have : k ≠ j := fun e => c (by rw [e]; exact List.length_pos_of_mem hG)
      obtain ⟨k0, a, b, e, g⟩ := fnd_first hG (m := m) (k := k + 1) (by omega) (by omega)
      exact ⟨k0, by omega, b, e, g⟩
/-! exits of a strip with faults -/
theorem pas_le {t : CTab} {s : Nat} {r : Int × Int} (ht : TabOk t) (hr : rgE r 12000 = 0) : (pasR t s r).1 ≤ (pasR t s r).2 := by
  have h := rgE_ok hr
  exact passH_mono rfl rfl (by omega) (fun i hi => by have := ht.bank i hi; unfold loR hiR; omega) (fun i _ k => k)
def exF (t : CTab) (x : CStrip) (S : List Int) (F : Flt) (n : Nat) : List (Int × Int) := (List.range n).map fun i => pasR t (fltS (S.getD i 0).toNat F) (x.ents.getD i default)
theorem exF_len {t : CTab} {x : CStrip} {S : List Int} {F : Flt} {n : Nat} : (exF t x S F n).length = n := by simp [exF]
theorem exF_succ {t : CTab} {x : CStrip} {S : List Int} {F : Flt} {n : Nat} : exF t x S F (n + 1) = exF t x S F n ++ [pasR t (fltS (S.getD n 0).toNat F) (x.ents.getD n default)] := by simp [exF, List.range_succ]
theorem exF_at {t : CTab} {x : CStrip} {S : List Int} {F : Flt} {n i : Nat} (h : i < n) : (exF t x S F n).getD i default = pasR t (fltS (S.getD i 0).toNat F) (x.ents.getD i default) := by
  rw [List.getD_eq_getElem?_getD, exF, List.getElem?_map, List.getElem?_range h]; rfl
/-- The faults explain themselves: there are least sets of faults, none greater than the given ones. -/
theorem explained {t : CTab} {x : CStrip} {S : List Int} {F : Flt} (ht : TabOk t) (hx : StrOk x) (hl : S.length = x.ents.length) (hS : ∀ i, i < S.length → ∃ s : Nat, S.getD i 0 = (s : Int) ∧ s < 2 ^ t.banks.length) (hF : fesE t F = 0) : ∃ k0, k0 ≤ F.length ∧ minF t x S (exF t x S F S.length) = sizL t x S (exF t x S F S.length) k0 ∧ 0 < (sizL t x S (exF t x S F S.length) k0).length := by
  have h4 := ht.len
  obtain ⟨_, hin, hdd⟩ := fesE_ok hF
  have hmem := canF_mem (F := F) (n := t.banks.length) (d := t.banks.length)
  have hle := can_le (F := F) (n := t.banks.length)
  have hcl : (canF F t.banks.length t.banks.length).length ≤ t.banks.length := by
    exact allL_len hmem
  have hex : expB t x S (exF t x S F S.length) (canF F t.banks.length t.banks.length) = true := by
    unfold expB
    rw [List.all_eq_true]
    intro i hi
    have hi := List.mem_range.1 hi
    obtain ⟨s, e, s1⟩ := hS i hi
    rw [exF_at hi, e, Int.toNat_natCast, can_same h4.2 hin (dst_of hdd) s1]
    have := pas_le (s := fltS s F) ht (hx.ent i (by omega))
    unfold mtB
    rw [decide_eq_true this]; rfl
  have hin2 : canF F t.banks.length t.banks.length ∈ sizL t x S (exF t x S F S.length) (canF F t.banks.length t.banks.length).length := by
    rw [siz_all, List.mem_filter, hex, beq_self_eq_true]; exact ⟨hmem, rfl⟩
  obtain ⟨k0, _, b, e, g⟩ := fnd_first hin2 (m := t.banks.length + 1) (k := 0) (Nat.zero_le _) (by omega)
  exact ⟨k0, by omega, e, g⟩
end Go.Vm
