import Derived.Test.YtmebdgliiickfaaVmU
set_option linter.all false
/- A region whose order is drawn: every order comes to what text order comes to. -/
namespace Go.Vm
variable {Γ : Nat → Option (List V)} {X : Ctx} {N : Nat} {ds : List Deferred} {σ σ' : VS} {a : Act} {w w' : World} {P : Program} {Sp : FuncId → List V → R → Prop} {ops : Array Oper}

theorem VS.same {σ σ' : VS} (h1 : ∀ t, σ.get t = σ'.get t) (h2 : ∀ k, σ.mem k = σ'.mem k) : σ = σ' := by
  obtain ⟨g, m⟩ := σ
  obtain ⟨g', m'⟩ := σ'
  have e1 : g = g' := funext h1
  have e2 : m = m' := funext h2
  subst e1 e2; rfl

theorem look_frz {k : Key} {m : M} : ∀ {wr : List (Key × M)}, (∀ x ∈ wr, x.1 = k → x.2.isFrz = true) → (∃ x ∈ wr, x.1 = k) → look k m wr = .frz
  | [], _, h => by obtain ⟨x, hx, _⟩ := h; cases hx
  | (k', v) :: r, h, he => by
    simp only [look]
    split
    · rename_i e
      have := h (k', v) (by simp) e.symm
      cases v <;> simp [M.isFrz] at this ⊢
    · rename_i e
      refine look_frz (fun x hx => h x (List.mem_cons_of_mem _ hx)) ?_
      obtain ⟨x, hx, hxe⟩ := he
      rcases List.mem_cons.1 hx with rfl | hx
      · exact (e hxe.symm).elim
      · exact ⟨x, hx, hxe⟩

theorem kapart_spec {e e' : Eff} (h : kapart e.tr e'.tr = true) : (∀ x ∈ e.wr, x.1 ∉ e'.rd) ∧ (∀ x ∈ e'.wr, x.1 ∉ e.rd) ∧ ∀ x ∈ e.wr, ∀ y ∈ e'.wr, x.1 = y.1 → x.2.isFrz = true ∧ y.2.isFrz = true := by
  simp only [kapart, Eff.tr, Bool.and_eq_true, List.all_eq_true, List.mem_map, forall_exists_index, and_imp, Bool.or_eq_true, bne_iff_ne, ne_eq, Bool.not_eq_true', forall_apply_eq_imp_iff₂] at h
  obtain ⟨⟨h1, h2⟩, h3⟩ := h
  refine ⟨fun x hx hm => ?_, fun x hx hm => ?_, fun x hx y hy e => ?_⟩
  · have := h1 x hx; simp at this; exact this hm
  · have := h2 x hx; simp at this; exact this hm
  · rcases h3 x hx y hy with h | h
    · exact (h e).elim
    · exact h

/-- Two operations that may change places. -/
def Apart2 (d d' : Option Nat) (e e' : Eff) : Prop := (∀ t, d = some t → d' ≠ some t) ∧ ∀ x ∈ e.wr, ∀ y ∈ e'.wr, x.1 = y.1 → x.2.isFrz = true ∧ y.2.isFrz = true
theorem apply_comm {d d' : Option Nat} {e e' : Eff} (h : Apart2 d d' e e') : (σ.apply d e).apply d' e' = (σ.apply d' e').apply d e := by
  refine VS.same (fun t => ?_) (fun k => ?_)
  · simp only [apply_get]
    by_cases h1 : d = some t
    · have := h.1 t h1; simp [h1, this]
    · simp [h1]
  · simp only [apply_mem]
    by_cases h1 : ∃ x ∈ e.wr, x.1 = k
    · by_cases h2 : ∃ y ∈ e'.wr, y.1 = k
      · obtain ⟨x, hx, hxk⟩ := h1
        obtain ⟨y, hy, hyk⟩ := h2
        rw [look_frz (wr := e'.wr) (fun z hz hzk => (h.2 x hx z hz (hxk.trans hzk.symm)).2) ⟨y, hy, hyk⟩, look_frz (wr := e.wr) (fun z hz hzk => (h.2 z hz y hy (hzk.trans hyk.symm)).1) ⟨x, hx, hxk⟩]
      · rw [look_not fun x hx e => h2 ⟨x, hx, e⟩, look_not (wr := e'.wr) fun x hx e => h2 ⟨x, hx, e⟩]
    · rw [look_not (wr := e.wr) fun x hx e => h1 ⟨x, hx, e⟩, look_not (wr := e.wr) fun x hx e => h1 ⟨x, hx, e⟩]

theorem runS_comm {d : Option Nat} {e : Eff} : ∀ {l : List Oper} {E : List Eff} {k : Nat} {S : Nat → Bool} {σ : VS}, (∀ i o' e', l[i]? = some o' → E[i]? = some e' → S (k + i) = true → Apart2 d o'.dst e e') → runS l E k S (σ.apply d e) = (runS l E k S σ).apply d e
  | [], E, k, S, σ, _ => by cases E <;> rfl
  | o :: r, [], k, S, σ, _ => rfl
  | o :: r, e' :: es, k, S, σ, h => by
    simp only [runS]
    have ih := fun σ => runS_comm (d := d) (e := e) (l := r) (E := es) (k := k + 1) (S := S) (σ := σ) fun i o' e' h1 h2 hs => h (i + 1) o' e' (by simpa using h1) (by simpa using h2) (by rw [show k + (i + 1) = k + 1 + i by omega]; exact hs)
    split
    · rename_i hs
      rw [apply_comm (h 0 o e' rfl rfl hs), ih]
    · exact ih _

/-- One operation more. -/
theorem runS_add : ∀ {l : List Oper} {E : List Eff} {k : Nat} {S : Nat → Bool} {σ : VS} {j : Nat} {o : Oper} {e : Eff}, l[j]? = some o → E[j]? = some e → S (k + j) = false → (∀ i o' e', j < i → l[i]? = some o' → E[i]? = some e' → S (k + i) = true → Apart2 o.dst o'.dst e e') →
    runS l E k (fun m => if m = k + j then true else S m) σ = (runS l E k S σ).apply o.dst e
  | [], E, k, S, σ, j, o, e, h1, _, _, _ => by simp at h1
  | o :: r, [], k, S, σ, j, o1, e, _, h2, _, _ => by simp at h2
  | o1 :: r, e1 :: es, k, S, σ, 0, o, e, h1, h2, hs, h => by
    simp at h1 h2
    subst h1 h2
    simp only [runS]
    rw [if_pos (by simp), if_neg (by simpa using hs)]
    rw [← runS_comm fun i o' e' p q hS => h (i + 1) o' e' (by omega) (by simpa using p) (by simpa using q) (by rw [show k + (i + 1) = k + 1 + i by omega]; exact hS)]
    refine VS.same (fun t => runS_get rfl fun i o' hi hne => (hne ?_).elim) (fun κ => runS_mem rfl fun i e' hi hne => (hne ?_).elim)
    · rw [if_neg (by omega)]
    · rw [if_neg (by omega)]
  | o1 :: r, e1 :: es, k, S, σ, j + 1, o, e, h1, h2, hs, h => by
    have e0 : (fun m => if m = k + (j + 1) then true else S m) = fun m => if m = (k + 1) + j then true else S m := by funext m; rw [show k + (j + 1) = k + 1 + j by omega]
    have e1 : (if k = k + 1 + j then true else S k) = S k := if_neg (by omega)
    rw [e0]
    simp only [runS, e1]
    exact runS_add (by simpa using h1) (by simpa using h2) (by rw [show k + 1 + j = k + (j + 1) by omega]; exact hs) fun i o' e' hj p q hS => h (i + 1) o' e' (by omega) (by simpa using p) (by simpa using q) (by rw [show k + (i + 1) = k + 1 + i by omega]; exact hS)

theorem filter_lt {p p' : Nat → Bool} {i : Nat} : ∀ {l : List Nat}, (∀ x ∈ l, p' x = true → p x = true) → i ∈ l → p i = true → p' i = false → (l.filter p').length < (l.filter p).length
  | [], _, h, _, _ => by cases h
  | x :: r, hm, hi, h1, h2 => by
    have hle : (r.filter p').length ≤ (r.filter p).length := by
      rw [← List.countP_eq_length_filter, ← List.countP_eq_length_filter]
      exact List.countP_mono_left fun y hy => hm y (List.mem_cons_of_mem _ hy)
    rcases List.mem_cons.1 hi with rfl | hi
    · simp only [List.filter_cons, h1, h2, if_true, Bool.false_eq_true, if_false, List.length_cons]; omega
    · have ih := filter_lt (fun y hy => hm y (List.mem_cons_of_mem _ hy)) hi h1 h2
      have hx := hm x (by simp)
      simp only [List.filter_cons]
      split
      · rename_i hp; rw [if_pos (hx hp)]; simp; exact ih
      · split
        · simp; omega
        · exact ih

theorem getDset {l : Array Bool} {i j : Nat} {b : Bool} (hi : i < l.size) : (l.setIfInBounds i true).getD j b = if j = i then true else l.getD j b := by
  simp only [Array.getD_eq_getD_getElem?, Array.getElem?_setIfInBounds]
  by_cases h : i = j
  · subst h; simp [hi]
  · rw [if_neg h, if_neg (fun e => h e.symm)]

theorem drawn_sound (hSp : ∀ f args r, Sp f args r → Spec P Γ f args r) (hm : P.follows .mixedOrders = true) {ro : Option Nat} {n id : Nat} {Q : Exit → Act → World → Prop} {C : VS → Prop} (h : Rp Γ X N ds σ a w) (hd : dstsB N ops.toList = true) (hk : vopsD P Γ Sp ops ops.toList [] σ C)
    (hQ : ∀ σ' a' w', C σ' → Rp Γ X N ds σ' a' w' → Q .normal a' w') : (Code.region id ops true).wpIn (fr ro) n P Q a w := by
  obtain ⟨E, hT, hI, hC⟩ := vopsD_trace hk
  have hlen : ops.size = E.length := by have := hT.len; simpa using this
  simp only [List.reverse_nil, List.nil_append] at hI
  have hI : ∀ j oj ej, ops[j]? = some oj → E[j]? = some ej → (∀ e ∈ oj.after, Region.binds .any e = true → e.on < j) ∧ ∀ i oi ei, i < j → ops[i]? = some oi → E[i]? = some ei → waitsOn oj i = true ∨ (oi.apart ops oj = true ∧ kapart ei.tr ej.tr = true) := by
    intro j oj ej hj hej
    have hjlt : j < ops.size := by
      rcases Nat.lt_or_ge j ops.size with h | h
      · exact h
      · rw [Array.getElem?_eq_none h] at hj; cases hj
    have h1 := List.all_eq_true.1 hI j (List.mem_range.2 hjlt)
    simp only [hj, List.getElem?_map, hej, Option.map_some, Bool.and_eq_true, List.all_eq_true, List.mem_range] at h1
    refine ⟨fun e he hb => ?_, fun i oi ei hi hoi hei => ?_⟩
    · have := Array.all_eq_true'.1 h1.1 e he
      simpa [hb] using this
    · have := h1.2 i hi
      simp only [hoi, hei, Option.map_some, Bool.or_eq_true, Bool.and_eq_true] at this
      exact this
  -- two operations of which neither waits for the other
  have hap : ∀ i j oi oj ei ej, i < j → ops[i]? = some oi → ops[j]? = some oj → E[i]? = some ei → E[j]? = some ej → (∀ e ∈ oj.after, Region.binds .any e = true → e.on ≠ i) → oi.apart ops oj = true ∧ kapart ei.tr ej.tr = true := by
    intro i j oi oj ei ej hij hi hj hei hej hw
    rcases (hI j oj ej hj hej).2 i oi ei hij hi hei with h | h
    · exfalso
      unfold waitsOn at h
      obtain ⟨e, he, hb⟩ := Array.any_eq_true'.1 h
      simp only [Bool.and_eq_true, beq_iff_eq] at hb
      exact hw e he hb.1 hb.2
    · exact h
  have main : ∀ (fuel : Nat) (listed : Array Bool) (a : Act) (w : World), listed.size = ops.size → (∀ j oj, ops[j]? = some oj → listed.getD j false = true → ∀ e ∈ oj.after, Region.binds .any e = true → listed.getD e.on false = true) →
      ((List.range ops.size).filter fun i => !listed.getD i true).length ≤ fuel → Rp Γ X N ds (runS ops.toList E 0 (fun i => listed.getD i false) σ) a w → wpAnyIn (fr ro) n P .any ops Q fuel listed a w := by
    intro fuel
    induction fuel with
    | zero =>
      intro listed a w hsz hcl hf hR
      have hall : ∀ i, i < ops.size → listed.getD i true = true := fun i hi => by
        have h0 := List.eq_nil_of_length_eq_zero (Nat.le_zero.1 hf)
        have := List.filter_eq_nil_iff.1 h0 i (List.mem_range.2 hi)
        simpa using this
      have hr : Region.ready .any ops listed = [] := by
        apply List.eq_nil_iff_forall_not_mem.2
        intro i hi
        obtain ⟨h1, o, ho, _⟩ := mem_ready.1 hi
        have hilt : i < ops.size := by
          rcases Nat.lt_or_ge i ops.size with h | h
          · exact h
          · rw [Array.getElem?_eq_none h] at ho; cases ho
        rw [hall i hilt] at h1; cases h1
      refine ⟨hr, ?_⟩
      refine hQ _ a w (hC 0) ?_
      have e0 : runS ops.toList E 0 (fun i => listed.getD i false) σ = runS ops.toList E 0 (fun _ => true) σ := by
        have hg : ∀ i, i < ops.size → listed.getD i false = true := fun i hi => by
          have := hall i hi
          rw [Array.getD_eq_getD_getElem?] at this ⊢
          have : i < listed.size := by omega
          simp_all
        refine VS.same (fun t => runS_get rfl fun i o' hi hne => (hne ?_).elim) (fun κ => runS_mem rfl fun i e' hi hne => (hne ?_).elim)
        · rw [Nat.zero_add]; exact hg i (by have := (List.getElem?_eq_some_iff.1 hi).1; simpa using this)
        · rw [Nat.zero_add]; exact hg i (by have := (List.getElem?_eq_some_iff.1 hi).1; omega)
      rw [← e0]; exact hR
    | succ fuel ih =>
      intro listed a w hsz hcl hf hR
      refine ⟨fun hr => ?_, fun i hi => ?_⟩
      · have hall : ∀ i, i < ops.size → listed.getD i false = true := fun i => by
          induction i using Nat.strongRecOn with
          | _ i ihi =>
            intro hi
            cases hc : listed.getD i true with
            | true => rw [Array.getD_eq_getD_getElem?] at hc ⊢; have : i < listed.size := by omega
                      simp_all
            | false =>
              exfalso
              have ho : ops[i]? = some ops[i] := by simp [hi]
              have hei : E[i]? = some (E[i]'(by omega)) := by simp
              have : i ∈ Region.ready .any ops listed := mem_ready.2 ⟨hc, _, ho, fun e he hb => ihi e.on ((hI i _ _ ho hei).1 e he hb) (by have := (hI i _ _ ho hei).1 e he hb; omega)⟩
              rw [hr] at this; cases this
        refine hQ _ a w (hC 0) ?_
        have e0 : runS ops.toList E 0 (fun i => listed.getD i false) σ = runS ops.toList E 0 (fun _ => true) σ := by
          refine VS.same (fun t => runS_get rfl fun i o' hi hne => (hne ?_).elim) (fun κ => runS_mem rfl fun i e' hi hne => (hne ?_).elim)
          · rw [Nat.zero_add]; exact hall i (by have := (List.getElem?_eq_some_iff.1 hi).1; simpa using this)
          · rw [Nat.zero_add]; exact hall i (by have := (List.getElem?_eq_some_iff.1 hi).1; omega)
        rw [← e0]; exact hR
      · obtain ⟨hun, o, ho, hwt⟩ := mem_ready.1 hi
        have hilt : i < ops.size := by
          rcases Nat.lt_or_ge i ops.size with h | h
          · exact h
          · rw [Array.getElem?_eq_none h] at ho; cases ho
        have hunf : listed.getD i false = false := by
          rw [Array.getD_eq_getD_getElem?] at hun ⊢
          have : i < listed.size := by omega
          simp_all
        obtain ⟨e, he⟩ : ∃ e, E[i]? = some e := ⟨E[i]'(by omega), by simp⟩
        have hoL : ops.toList[i]? = some o := by simpa using ho
        -- who stands before, and is not listed; who stands behind, and is
        have before : ∀ j oj ej, j < i → ops[j]? = some oj → E[j]? = some ej → listed.getD j false = false → oj.apart ops o = true ∧ kapart ej.tr e.tr = true := fun j oj ej hj hoj hej hl =>
          hap j i oj o ej e hj hoj ho hej he fun e' he' hb heq => by
            have := hwt e' he' hb; rw [heq, hl] at this; cases this
        have behind : ∀ j oj ej, i < j → ops[j]? = some oj → E[j]? = some ej → listed.getD j false = true → o.apart ops oj = true ∧ kapart e.tr ej.tr = true := fun j oj ej hj hoj hej hl =>
          hap i j o oj e ej hj ho hoj he hej fun e' he' hb heq => by
            have := hcl j oj hoj hl e' he' hb; rw [heq, hunf] at this; cases this
        have hlt2 : ∀ {j : Nat} {oj : Oper}, ops.toList[j]? = some oj → ∃ ej, E[j]? = some ej := fun {j oj} hj => by
          have := (List.getElem?_eq_some_iff.1 hj).1
          simp only [Array.length_toList] at this
          exact ⟨E[j]'(by omega), by simp⟩
        have hlt3 : ∀ {j : Nat} {ej : Eff}, E[j]? = some ej → ∃ oj, ops[j]? = some oj := fun {j ej} hj => by
          have := (List.getElem?_eq_some_iff.1 hj).1
          exact ⟨ops[j]'(by omega), by simp⟩
        have hstep : vstep P Γ Sp ops (runS ops.toList E 0 (fun i => listed.getD i false) σ) o (fun e' => e' = e) := by
          refine Trace.at 0 hT i o e hoL he _ (fun t ht => ?_) (fun κ hκ => ?_) _ rfl
          · refine runS_get rfl fun j oj hj hne hdst => ?_
            obtain ⟨ej, hej⟩ := hlt2 hj
            have hj : ops[j]? = some oj := by simpa using hj
            simp only [Nat.zero_add] at hne
            by_cases hji : j < i
            · have hl : listed.getD j false = false := by cases hc : listed.getD j false <;> simp [hc, hji] at hne ⊢
              exact (Oper.apart_spec (before j oj ej hji hj hej hl).1).1 t hdst ht
            · have hl : listed.getD j false = true := by cases hc : listed.getD j false <;> simp [hc, hji] at hne ⊢
              have : i ≠ j := fun e0 => by subst e0; rw [hunf] at hl; cases hl
              exact (Oper.apart_spec (behind j oj ej (by omega) hj hej hl).1).2.2 t hdst ht
          · refine runS_mem rfl fun j ej hej hne x hx hxk => ?_
            obtain ⟨oj, hj⟩ := hlt3 hej
            simp only [Nat.zero_add] at hne
            by_cases hji : j < i
            · have hl : listed.getD j false = false := by cases hc : listed.getD j false <;> simp [hc, hji] at hne ⊢
              exact (kapart_spec (before j oj ej hji hj hej hl).2).1 x hx (hxk ▸ hκ)
            · have hl : listed.getD j false = true := by cases hc : listed.getD j false <;> simp [hc, hji] at hne ⊢
              have : i ≠ j := fun e0 => by subst e0; rw [hunf] at hl; cases hl
              exact (kapart_spec (behind j oj ej (by omega) hj hej hl).2).2.1 x hx (hxk ▸ hκ)
        obtain ⟨e', rfl, hs⟩ := step_sound (ops := ops) hSp hR (dsts_spec hd o (List.mem_of_getElem? hoL)) hstep
        unfold wpOpIn
        rw [ho]
        refine hs ro n _ Q fun a' w' hR' => ih (listed.setIfInBounds i true) a' w' (by simp [hsz]) ?_ ?_ ?_
        · intro j oj hj hl e1 he1 hb
          rw [getDset (by omega)] at hl ⊢
          split
          · rfl
          · split at hl
            · rename_i hji; subst hji; rw [ho] at hj; cases hj; exact hwt e1 he1 hb
            · exact hcl j oj hj hl e1 he1 hb
        · have := filter_lt (p := fun k => !listed.getD k true) (p' := fun k => !(listed.setIfInBounds i true).getD k true) (i := i) (l := List.range ops.size) (fun x _ hx => by
            rw [getDset (by omega)] at hx
            split at hx
            · cases hx
            · exact hx) (List.mem_range.2 hilt) (by simp only [hun]; rfl) (by rw [getDset (by omega)]; simp)
          omega
        · have e0 := runS_add (k := 0) (S := fun i => listed.getD i false) (σ := σ) hoL he (by simpa using hunf) fun j oj ej hj hoj hej hl => by
            have hb := behind j oj ej hj (by simpa using hoj) hej (by simpa using hl)
            exact ⟨(Oper.apart_spec hb.1).2.1, (kapart_spec hb.2).2.2⟩
          have e1 : (fun k => (listed.setIfInBounds i true).getD k false) = fun m => if m = 0 + i then true else listed.getD m false := by funext m; rw [getDset (by omega), Nat.zero_add]
          rw [e1, e0]; exact hR'
  refine wpIn_region_any hm (main ops.size (Array.replicate ops.size false) a _ (by simp) ?_ ?_ ?_)
  · intro j oj hj hl
    rw [Array.getD_eq_getD_getElem?] at hl
    by_cases hjl : j < ops.size <;> simp [hjl] at hl
  · refine Nat.le_trans (List.length_filter_le _ _) (by simp)
  · have e0 : runS ops.toList E 0 (fun i => (Array.replicate ops.size false).getD i false) σ = σ := by
      have hno : ∀ (l : List Oper) (E : List Eff) (k : Nat) (S : Nat → Bool) (σ : VS), (∀ i, S i = false) → runS l E k S σ = σ := by
        intro l
        induction l with
        | nil => intro E k S σ _; cases E <;> rfl
        | cons o r ih =>
          intro E k S σ hS
          cases E with
          | nil => rfl
          | cons e es => simp only [runS, hS k, Bool.false_eq_true, if_false]; exact ih _ _ _ _ hS
      refine hno _ _ _ _ _ fun i => ?_
      rw [Array.getD_eq_getD_getElem?]
      by_cases hjl : i < ops.size <;> simp [hjl]
    rw [e0]
    obtain ⟨G, St, own, hR⟩ := h
    exact ⟨G, St, _, hR.ext (Stp.drew _ _)⟩
end Go.Vm
