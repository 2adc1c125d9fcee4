import Derived.Test.YtgehfnapilmphaaGreatDoorWcPt
set_option linter.all false
/- Sets of a plan are available; the plan of sets is valid: plain. -/
namespace Go.Vm
open Go.Proofs
theorem has_bit {s b : Nat} : hasB s b = s.testBit b := by
  unfold hasB
  rw [Nat.testBit_eq_decide_div_mod_eq]
  rw [Bool.eq_iff_iff, beq_iff_eq, decide_eq_true_eq]
theorem has_add {x n b : Nat} (hx : x < 2 ^ n) (hb : b < n + 1) : hasB (x + 2 ^ n) b = if b = n then true else hasB x b := by
  rw [has_bit, has_bit, Nat.add_comm]
  by_cases c : b = n
  · subst c
    rw [if_pos rfl, Nat.testBit_two_pow_add_eq, Nat.testBit_lt_two_pow hx]; rfl
  · rw [if_neg c, Nat.testBit_two_pow_add_gt (by omega)]
theorem has_big {x n : Nat} (hx : x < 2 ^ n) : hasB x n = false := by rw [has_bit, Nat.testBit_lt_two_pow hx]
theorem st_has {t : CTab} {P : List (List (Int × Int))} {i b : Nat} : ∀ {n : Nat}, b < n → hasB (stN t P i n) b = cmdB (P.getD b default) ((i : Int) + b - (t.banks.getD b default).del)
  | n + 1, h => by
    have hx := stN_lt (t := t) (P := P) (i := i) (n := n)
    simp only [stN]
    by_cases e : b = n
    · subst e
      by_cases c : cmdB (P.getD b default) ((i : Int) + b - (t.banks.getD b default).del) = true
      · rw [if_pos c, has_add hx (by omega), if_pos rfl, c]
      · rw [if_neg c, has_big hx]; rw [Bool.not_eq_true] at c; exact c.symm
    · have ih := st_has (t := t) (P := P) (i := i) (b := b) (n := n) (by omega)
      split
      · rw [has_add hx (by omega), if_neg e]; exact ih
      · exact ih
theorem av_has {t : CTab} {seg : Int} {b : Nat} : ∀ {n : Nat}, b < n → hasB (avN t seg n) b = avB t seg b
  | n + 1, h => by
    have hx := avN_lt (t := t) (seg := seg) (n := n)
    simp only [avN]
    by_cases e : b = n
    · subst e
      by_cases c : avB t seg b = true
      · rw [if_pos c, has_add hx (by omega), if_pos rfl, c]
      · rw [if_neg c, has_big hx]; rw [Bool.not_eq_true] at c; exact c.symm
    · have ih := av_has (t := t) (seg := seg) (b := b) (n := n) (by omega)
      split
      · rw [has_add hx (by omega), if_neg e]; exact ih
      · exact ih
theorem sub_of : ∀ s : Nat, s < 16 → ∀ a : Nat, a < 16 → (∀ b : Nat, b < 4 → hasB s b = true → hasB a b = true) → subB s a = true := by decide
theorem sub_to : ∀ s : Nat, s < 16 → ∀ a : Nat, a < 16 → subB s a = true → ∀ b : Nat, b < 4 → hasB s b = true → hasB a b = true := by decide
theorem com_mem {l : List (Int × Int)} (h : comE l = 0) : ∀ r ∈ l, 0 ≤ r.1 ∧ r.1 ≤ r.2 ∧ r.2 ≤ 30 := by
  have h20 := com_ok h
  unfold comE at h
  rw [if_neg (by omega)] at h
  intro r hr
  obtain ⟨i, hi, rfl⟩ := List.getElem_of_mem hr
  have := scanI_zero h i hi default
  rw [Nat.zero_add] at this
  have := rgE_ok (cme_ok this)
  simp only at this
  rw [show l[i] = l.getD i default by simp [List.getD, hi]]
  exact this
/-- The sets of a valid plan are available. -/
theorem so_sets {t : CTab} {P : List (List (Int × Int))} (h : (plnE t P).2 = 0) {n : Nat} : setsE t ((soL t P n).map fun (s : Nat) => (s : Int)) = 0 := by
  obtain ⟨ht, hpl, hco⟩ := pln_ok h
  have h4 := ht.len
  have k16 : 2 ^ t.banks.length ≤ 16 := Nat.pow_le_pow_right (by omega) h4.2
  refine setsZ fun i hi => ?_
  have hin : i < n := by rw [List.length_map, soL_len] at hi; exact hi
  have hlt := stN_lt (t := t) (P := P) (i := i) (n := t.banks.length)
  have hav := avV_lt (t := t) (seg := (i : Int)) h4.2
  refine ⟨stN t P i t.banks.length, ?_, hlt, sub_of _ (by omega) _ hav fun b hb hs => ?_⟩
  · rw [List.getD_eq_getElem?_getD, List.getElem?_map, soL, List.getElem?_map, List.getElem?_range hin]; rfl
  · by_cases hbl : b < t.banks.length
    · rw [av_has hbl]
      rw [st_has hbl] at hs
      unfold cmdB at hs
      obtain ⟨r, hr, hw⟩ := List.any_eq_true.1 hs
      have hm := com_mem (hco _ (getD_memC (by omega))) r hr
      have := wi2.1 hw
      unfold avB
      exact decide_eq_true (by omega)
    · have : hasB (stN t P i t.banks.length) b = false := by
        rw [has_bit]; exact Nat.testBit_lt_two_pow (Nat.lt_of_lt_of_le hlt (Nat.pow_le_pow_right (by omega) (by omega)))
      rw [this] at hs; cases hs
/-- Ranges in order, apart, with bounds. -/
def apart (l : List (Int × Int)) : Prop := (∀ r ∈ l, 0 ≤ r.1 ∧ r.1 ≤ r.2 ∧ r.2 ≤ 30) ∧ ∀ i, 0 < i → i < l.length → (l.getD i default).1 > (l.getD (i - 1) default).2 + 1
theorem com_apart {l : List (Int × Int)} (h : apart l) (hl : l.length ≤ 20) : comE l = 0 := by
  unfold comE
  rw [if_neg (by omega)]
  have key : ∀ (n i : Nat), l.length - i = n → scanI (cme l) i (l.drop i) = 0 := by
    intro n
    induction n with
    | zero => intro i hi; exact scanI_end (by omega)
    | succ n ih =>
      intro i hi
      have hr := h.1 _ (getD_memC (l := l) (i := i) (by omega))
      have e : cme l i (l.getD i default) = 0 := by
        unfold cme
        have e1 : rgE ((l.getD i default).1, (l.getD i default).2) 30 = 0 := rgE_zero hr
        by_cases c : i = 0
        · rw [if_pos c]; exact e1
        · rw [if_neg c, e1, decide_eq_true (h.2 i (by omega) (by omega))]; rfl
      rw [scanI_go default (by omega) e]
      exact ih (i + 1) (by omega)
  have := key l.length 0 (by omega)
  rwa [List.drop_zero] at this
theorem set_at {l : List (Int × Int)} {k i : Nat} {v : Int × Int} (hk : k < l.length) : (l.set k v).getD i default = if i = k then v else l.getD i default := by
  rw [List.getD_eq_getElem?_getD, List.getElem?_set]
  by_cases c : k = i
  · subst c; rw [if_pos rfl, if_pos rfl, if_pos hk]; rfl
  · rw [if_neg c, if_neg (fun h => c h.symm), List.getD_eq_getElem?_getD]
theorem app_at {l : List (Int × Int)} {i : Nat} {v : Int × Int} (hi : i < l.length + 1) : (l ++ [v]).getD i default = if i = l.length then v else l.getD i default := by
  by_cases c : i = l.length
  · rw [if_pos c, c, List.getD_eq_getElem?_getD, List.getElem?_append_right (Nat.le_refl _)]; simp
  · rw [if_neg c, List.getD_eq_getElem?_getD, List.getElem?_append_left (by omega), ← List.getD_eq_getElem?_getD]
theorem cmdL_apart {l : List (Int × Int)} {T : Int} (h : apart l) (ha : ahead l T) (hT : 0 ≤ T ∧ T ≤ 30) : apart (cmdL l T) := by
  unfold cmdL
  split
  · rename_i c
    have hl := h.1 _ (getD_memC (l := l) (i := l.length - 1) (by omega))
    refine ⟨fun r hr => ?_, fun i h0 hi => ?_⟩
    · rcases List.mem_or_eq_of_mem_set hr with hr | hr
      · exact h.1 r hr
      · rw [hr]; simp only; omega
    · rw [List.length_set] at hi
      have hs := h.2 i h0 hi
      rw [set_at (by omega), set_at (by omega), if_neg (show ¬ i - 1 = l.length - 1 by omega)]
      by_cases e : i = l.length - 1
      · rw [if_pos e]; rw [e] at hs ⊢; exact hs
      · rw [if_neg e]; exact hs
  · rename_i c
    refine ⟨fun r hr => ?_, fun i h0 hi => ?_⟩
    · rcases List.mem_append.1 hr with hr | hr
      · exact h.1 r hr
      · rw [List.mem_singleton.1 hr]; simp only; omega
    · rw [List.length_append, List.length_singleton] at hi
      rw [app_at hi, app_at (by omega), if_neg (show ¬ i - 1 = l.length by omega)]
      by_cases e : i = l.length
      · rw [if_pos e]
        have hl := ha _ (getD_memC (l := l) (i := l.length - 1) (by omega))
        rw [show i - 1 = l.length - 1 by omega]
        have : ¬ (l.getD (l.length - 1) default).2 + 1 = T := fun k => c ⟨by omega, k⟩
        simp only; omega
      · rw [if_neg e]; exact h.2 i h0 (by omega)
theorem plN_apart {t : CTab} {l : List Int} {b : Nat} (ht : TabOk t) (hb : b < t.banks.length) (hs : ∀ i, i < l.length → ∃ s : Nat, l.getD i 0 = (s : Int) ∧ s < 2 ^ t.banks.length ∧ subB s (avV t i) = true) (h12 : l.length ≤ 12) : ∀ {n : Nat}, n ≤ l.length → apart (plN t l b n)
  | 0, _ => ⟨fun r hr => by simp [plN] at hr, fun i _ hi => by simp [plN] at hi⟩
  | n + 1, hn => by
    have ih := plN_apart ht hb hs h12 (n := n) (by omega)
    have h4 := ht.len
    simp only [plN]
    split
    · rename_i c
      obtain ⟨s, e, s1, s2⟩ := hs n (by omega)
      have k16 : 2 ^ t.banks.length ≤ 16 := Nat.pow_le_pow_right (by omega) h4.2
      rw [e, Int.toNat_natCast] at c
      have ha := sub_to s (by omega) _ (avV_lt (t := t) (seg := (n : Int)) h4.2) s2 b (by omega) c
      rw [av_has hb] at ha
      have := of_decide_eq_true ha
      have hd := (ht.bank b hb).2
      exact cmdL_apart ih plN_ahead ⟨by omega, by omega⟩
    · exact ih
/-- The plan of sets is valid. -/
theorem plnL_ok {t : CTab} {l : List Int} (ht : TabOk t) (hs : setsE t l = 0) (h12 : l.length ≤ 12) : (plnE t (plnL t l)).2 = 0 := by
  have hset : ∀ i, i < l.length → ∃ s : Nat, l.getD i 0 = (s : Int) ∧ s < 2 ^ t.banks.length ∧ subB s (avV t i) = true := fun i hi => by
    obtain ⟨s, e, s1, s2, s3⟩ := sets_at ht hs hi
    exact ⟨s, e, s2, s3⟩
  have c : shpP t (plnL t l) = 0 := by
    unfold shpP; rw [first_cons0 (tab_zero ht), plnL_len, beq_self_eq_true]; rfl
  unfold plnE
  rw [if_neg (fun k => k c), scan_none]
  intro x hx
  obtain ⟨b, hb, rfl⟩ := List.mem_map.1 hx
  exact com_apart (plN_apart ht (List.mem_range.1 hb) hset h12 (Nat.le_refl _)) (by have := plN_len (t := t) (l := l) (b := b) (n := l.length); omega)
/-- Each tick that the plan of a plan's sets commands is commanded by the plan. -/
theorem back_sub {t : CTab} {P : List (List (Int × Int))} {n b : Nat} {x : Int} (hb : b < t.banks.length) (h : cmdB (plN t ((soL t P n).map fun (s : Nat) => (s : Int)) b ((soL t P n).map fun (s : Nat) => (s : Int)).length) x = true) : cmdB (P.getD b default) x = true := by
  obtain ⟨i, h1, h2, h3⟩ := plN_cmd.1 h
  rw [List.length_map, soL_len] at h1
  have e : ((soL t P n).map fun (s : Nat) => (s : Int)).getD i 0 = (stN t P i t.banks.length : Int) := by
    rw [List.getD_eq_getElem?_getD, List.getElem?_map, soL, List.getElem?_map, List.getElem?_range h1]; rfl
  rw [e, Int.toNat_natCast, st_has hb] at h2
  rw [h3]; exact h2
theorem cnt_okM {n : Nat} (h : cntE n = 0) : 1 ≤ n ∧ n ≤ 12 := by
  have h1 := firstV_zero h
  have a := unless_ok (e := 10) (by decide) (h1 _ (List.mem_cons.2 (.inl rfl)))
  have b := unless_ok (e := 8) (by decide) (h1 _ (List.mem_cons_of_mem _ (List.mem_singleton.2 rfl)))
  simp only [decide_eq_true_eq] at a b
  omega
end Go.Vm
