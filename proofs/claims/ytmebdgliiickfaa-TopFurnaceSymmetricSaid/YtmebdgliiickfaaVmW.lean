import Derived.Test.YtmebdgliiickfaaVmV
import Derived.Sort.LoopGhostIn
set_option linter.all false
/- Forgetting; control; functions. -/
namespace Go.Vm
variable {Γ : Nat → Option (List V)} {X : Ctx} {N : Nat} {ds : List Deferred} {σ τ : VS} {a : Act} {w w' : World} {G G' : GG} {St St' : Nat → Nat → Prop} {own : Nat → Prop} {P : Program} {Sp : FuncId → List V → R → Prop} {ops : Array Oper}

/-! A frame that says less. -/
def wkL (m m0 : Key → M) : L → L → Prop
  | .dead, _ => True
  | .p v, l => l = .p v
  | .nilS, l => l = .nilS
  | .e0, l => l = .e0
  | .own t j, l => l = .own t j ∧ ∃ n, m (.b t) = .box n ∧ j < n
  | .arr t g, l => (∃ e es xs, m (.a t) = .arr g e es xs) ∧ ((∃ g0 e es xs, l = .arr t g0 ∧ m0 (.a t) = .arr g0 e es xs) ∨ (l = .nilS ∧ isNone (m0 (.a t)) = true))
  | _, _ => False

structure WkS (σ τ : VS) : Prop where
  slots : ∀ t, wkL τ.mem σ.mem (τ.get t) (σ.get t)
  boxes : ∀ t n, τ.mem (.b t) = .box n → σ.mem (.b t) = .box n ∧ isNone (τ.mem (.a t)) = true ∧ (isNone (τ.mem (.f t)) = true → isNone (σ.mem (.f t)) = true) ∧
    ∀ j, j < n → ∃ l l', τ.mem (.c t j) = .cell l ∧ σ.mem (.c t j) = .cell l' ∧ wkL τ.mem σ.mem l l'
  arrs : ∀ t g e es xs, τ.mem (.a t) = .arr g e es xs → (∃ g0, σ.mem (.a t) = .arr g0 e es xs ∧ (isNone (τ.mem (.f t)) = true → isNone (σ.mem (.f t)) = true)) ∨ (xs = [] ∧ 0 < es ∧ isNone (σ.mem (.a t)) = true)

theorem RepD.weaken (h : RepD Γ X N ds σ a w G St own) (hw : WkS σ τ) : ∃ G', RepD Γ X N ds τ a w G' St own := by
  let G' : GG := ⟨G.bk, fun t => if isNone (σ.mem (.a t)) = true then .slice none 0 0 else G.av t⟩
  have hav : ∀ t g e es xs, σ.mem (.a t) = .arr g e es xs → G'.av t = G.av t := fun t g e es xs hm => by simp [G', hm, isNone]
  have hav0 : ∀ t, isNone (σ.mem (.a t)) = true → G'.av t = .slice none 0 0 := fun t hm => by simp [G', hm]
  have hL : ∀ l l' v, wkL τ.mem σ.mem l l' → repLv σ.mem G St (rdW w) l' v → repLv τ.mem G' St (rdW w) l v := by
    intro l l' v hk hv
    cases l with
    | dead => simp only [repLv]
    | p x => simp only [wkL] at hk; subst hk; simpa only [repLv] using hv
    | nilS => simp only [wkL] at hk; subst hk; simpa only [repLv] using hv
    | e0 => simp only [wkL] at hk; subst hk; simpa only [repLv] using hv
    | own t j =>
      simp only [wkL] at hk
      obtain ⟨rfl, n, h1, h2⟩ := hk
      simp only [repLv] at hv ⊢
      exact ⟨hv.1, n, h1, h2⟩
    | arr t g =>
      simp only [wkL] at hk
      obtain ⟨⟨e, es, xs, h1⟩, h2⟩ := hk
      simp only [repLv]
      refine ⟨g, e, es, xs, h1, Nat.le_refl _, ?_⟩
      rcases h2 with ⟨g0, e', es', xs', rfl, h3⟩ | ⟨rfl, h3⟩
      · simp only [repLv] at hv
        obtain ⟨g1, _, _, _, h4, h5, h6, h7⟩ := hv
        rw [h3] at h4; cases h4
        exact ⟨h6, fun _ => by rw [hav t _ _ _ _ h3]; exact h7 rfl⟩
      · simp only [repLv] at hv
        subst hv
        exact ⟨by simp [Value.oneCell'], fun _ => (hav0 t h3).symm⟩
    | _ => simp [wkL] at hk
  have hblk : ∀ t b, blkOf τ.mem G' t = some b → blkOf σ.mem G t = some b := fun t b hb => by
    unfold blkOf at hb
    split at hb
    · rename_i n hm
      rw [h.blkB (hw.boxes t n hm).1]; exact hb
    · split at hb
      · rename_i g e es xs hm
        rcases hw.arrs t g e es xs hm with ⟨g0, h1, _⟩ | ⟨_, _, h1⟩
        · rw [hav t _ _ _ _ h1] at hb; rw [h.blkA h1]; exact hb
        · rw [hav0 t h1] at hb; cases hb
      · cases hb
  refine ⟨G', ?_⟩
  exact { h with
    slots := fun t => hL _ _ _ (hw.slots t) (h.slots t)
    boxes := fun t n hm => by
      obtain ⟨h1, _, _, h2⟩ := hw.boxes t n hm
      obtain ⟨cs, e, p, q, r⟩ := h.boxes t n h1
      refine ⟨cs, e, p, q, fun j hj => ?_⟩
      obtain ⟨l, l', k1, k2, k3⟩ := h2 j hj
      obtain ⟨l2, v, r1, r2, r3, r4⟩ := r j hj
      rw [k2] at r1; cases r1
      exact ⟨l, v, k1, r2, hL _ _ _ k3 r3, r4⟩
    arrs := fun t g e es xs hm => by
      rcases hw.arrs t g e es xs hm with ⟨g0, h1, _⟩ | ⟨rfl, h0, h1⟩
      · rw [hav t _ _ _ _ h1]; exact h.arrs t g0 e es xs h1
      · rw [hav0 t h1]
        exact ⟨h0, [], ⟨by simp, .inl ⟨rfl, rfl⟩⟩, by simp, fun i x hi => by simp at hi⟩
    disj := fun t t' b h1 h2 => h.disj t t' b (hblk t b h1) (hblk t' b h2)
    both := fun t n g e es xs h1 h2 => by have := (hw.boxes t n h1).2.1; rw [h2] at this; simp [isNone] at this
    ownb := fun t b hb => h.ownb t b (hblk t b hb)
    sbox := fun t n hm hf => h.sbox t n (hw.boxes t n hm).1 ((hw.boxes t n hm).2.2.1 hf)
    sarr := fun t g e es xs b hm hb => by
      rcases hw.arrs t g e es xs hm with ⟨g0, h1, hf⟩ | ⟨_, _, h1⟩
      · rw [hav t _ _ _ _ h1] at hb
        have := h.sarr t g0 e es xs b h1 hb
        exact ⟨fun hn => this.1 (hf hn), this.2⟩
      · rw [hav0 t h1] at hb; cases hb }
theorem Rp.weaken (h : Rp Γ X N ds σ a w) (hw : WkS σ τ) : Rp Γ X N ds τ a w := by
  obtain ⟨G, St, own, h⟩ := h
  obtain ⟨G', h'⟩ := h.weaken hw
  exact ⟨G', St, own, h'⟩

/-- A frame out of lists. -/
def lookG (t : Nat) : List (Nat × L) → L
  | [] => .dead
  | (t', l) :: r => if t = t' then l else lookG t r
def VS.of (gs : List (Nat × L)) (ms : List (Key × M)) : VS := ⟨fun t => lookG t gs, fun k => look k .none ms⟩

def wkC (ms : List (Key × M)) (σ : VS) (t : Nat) : Nat → Nat → Prop
  | _, 0 => True
  | j, n + 1 => (match look (.c t j) .none ms, σ.mem (.c t j) with | .cell l, .cell l' => wkL (fun k => look k .none ms) σ.mem l l' | _, _ => False) ∧ wkC ms σ t (j + 1) n
def wkM (ms : List (Key × M)) (σ : VS) : Key → M → Prop
  | .b t, .box n => σ.mem (.b t) = .box n ∧ isNone (look (.a t) .none ms) = true ∧ (isNone (look (.f t) .none ms) = true → isNone (σ.mem (.f t)) = true) ∧ wkC ms σ t 0 n
  | .a t, .arr _ e es xs => (match σ.mem (.a t) with | .arr _ e' es' xs' => e' = e ∧ es' = es ∧ xs' = xs ∧ (isNone (look (.f t) .none ms) = true → isNone (σ.mem (.f t)) = true) | .none => xs = [] ∧ 0 < es | _ => False)
  | .b _, _ => False
  | .a _, _ => False
  | _, _ => True
def wkGs (ms : List (Key × M)) (σ : VS) : List (Nat × L) → Prop
  | [] => True
  | (t, l) :: r => wkL (fun k => look k .none ms) σ.mem l (σ.get t) ∧ wkGs ms σ r
def wkMs (ms : List (Key × M)) (σ : VS) : List (Key × M) → Prop
  | [] => True
  | (k, m) :: r => wkM ms σ k m ∧ wkMs ms σ r
/-- WHAT HOLDS OF THE FRAME, SAID BY LISTS. -/
def Wk (σ : VS) (gs : List (Nat × L)) (ms : List (Key × M)) : Prop := wkGs ms σ gs ∧ wkMs ms σ ms

theorem wkC_spec {ms : List (Key × M)} {t : Nat} : ∀ {n j0 : Nat}, wkC ms σ t j0 n → ∀ j, j0 ≤ j → j < j0 + n → ∃ l l', look (.c t j) .none ms = .cell l ∧ σ.mem (.c t j) = .cell l' ∧ wkL (fun k => look k .none ms) σ.mem l l'
  | 0, j0, _, j, h1, h2 => by omega
  | n + 1, j0, h, j, h1, h2 => by
    simp only [wkC] at h
    by_cases hj : j = j0
    · subst hj
      have h := h.1
      split at h
      · rename_i l l' e1 e2; exact ⟨l, l', e1, e2, h⟩
      · exact h.elim
    · exact wkC_spec h.2 j (by omega) (by omega)
theorem look_mem {k : Key} : ∀ {ms : List (Key × M)}, look k .none ms = .none ∨ (k, look k .none ms) ∈ ms
  | [] => .inl rfl
  | (k', m) :: r => by
    simp only [look]
    split
    · rename_i e; subst e; exact .inr (by simp)
    · rcases look_mem (k := k) (ms := r) with h | h
      · exact .inl h
      · exact .inr (List.mem_cons_of_mem _ h)
theorem lookG_mem {t : Nat} : ∀ {gs : List (Nat × L)}, lookG t gs = .dead ∨ (t, lookG t gs) ∈ gs
  | [] => .inl rfl
  | (t', l) :: r => by
    simp only [lookG]
    split
    · rename_i e; subst e; exact .inr (by simp)
    · rcases lookG_mem (t := t) (gs := r) with h | h
      · exact .inl h
      · exact .inr (List.mem_cons_of_mem _ h)
theorem wkGs_mem {ms : List (Key × M)} : ∀ {gs : List (Nat × L)}, wkGs ms σ gs → ∀ x ∈ gs, wkL (fun k => look k .none ms) σ.mem x.2 (σ.get x.1)
  | [], _, x, hx => by cases hx
  | y :: r, h, x, hx => by
    simp only [wkGs] at h
    rcases List.mem_cons.1 hx with rfl | hx
    · exact h.1
    · exact wkGs_mem h.2 x hx
theorem wkMs_mem {ms : List (Key × M)} : ∀ {r : List (Key × M)}, wkMs ms σ r → ∀ x ∈ r, wkM ms σ x.1 x.2
  | [], _, x, hx => by cases hx
  | y :: r, h, x, hx => by
    simp only [wkMs] at h
    rcases List.mem_cons.1 hx with rfl | hx
    · exact h.1
    · exact wkMs_mem h.2 x hx

theorem Wk.s {gs : List (Nat × L)} {ms : List (Key × M)} (h : Wk σ gs ms) : WkS σ (VS.of gs ms) := by
  have hM : ∀ k, look k .none ms = .none ∨ wkM ms σ k (look k .none ms) := fun k => by
    rcases look_mem (k := k) (ms := ms) with h1 | h1
    · exact .inl h1
    · exact .inr (wkMs_mem h.2 _ h1)
  refine ⟨fun t => ?_, fun t n hm => ?_, fun t g e es xs hm => ?_⟩
  · show wkL _ _ (lookG t gs) _
    rcases lookG_mem (t := t) (gs := gs) with h1 | h1
    · rw [h1]; simp only [wkL]
    · exact wkGs_mem h.1 _ h1
  · have hm' : look (.b t) .none ms = .box n := hm
    have := hM (.b t)
    rw [hm'] at this
    rcases this with h1 | h1
    · cases h1
    · simp only [wkM] at h1
      exact ⟨h1.1, h1.2.1, h1.2.2.1, fun j hj => wkC_spec h1.2.2.2 j (Nat.zero_le _) (by omega)⟩
  · have hm' : look (.a t) .none ms = .arr g e es xs := hm
    have := hM (.a t)
    rw [hm'] at this
    rcases this with h1 | h1
    · cases h1
    · simp only [wkM] at h1
      split at h1
      · rename_i g0 e' es' xs' e0
        obtain ⟨rfl, rfl, rfl, hf⟩ := h1
        exact .inl ⟨g0, e0, hf⟩
      · rename_i e0; exact .inr ⟨h1.1, h1.2, by rw [e0]; rfl⟩
      · exact h1.elim

/-! Control. -/
def thenV (K : VS → Prop) (Q : Exit → VS → Prop) : Exit → VS → Prop
  | .normal, σ => K σ
  | e, σ => Q e σ
def blockV (id : Nat) (Q : Exit → VS → Prop) : Exit → VS → Prop
  | .exit id', σ => if id' = id then Q .normal σ else Q (.exit id') σ
  | e, σ => Q e σ
/-- Here as much may be forgotten as one likes. -/
def vsay (K : VS → Prop) (σ : VS) : Prop := K σ ∨ ∃ τ, WkS σ τ ∧ K τ
def vcode (P : Program) (Γ : Nat → Option (List V)) (Sp : FuncId → List V → R → Prop) : Code → (Exit → VS → Prop) → VS → Prop
  | .skip, Q, σ => Q .normal σ
  | .region _ ops false, Q, σ => vops P Γ Sp ops ops.toList σ (Q .normal)
  | .region _ ops true, Q, σ => vopsD P Γ Sp ops ops.toList [] σ (Q .normal)
  | .seq x y, Q, σ => vcode P Γ Sp x (thenV (fun σ => vsay (vcode P Γ Sp y Q) σ) Q) σ
  | .cond c x y, Q, σ => vbool (σ.ev Γ c) (vcode P Γ Sp x Q σ) (vcode P Γ Sp y Q σ)
  | .block id c, Q, σ => vcode P Γ Sp c (blockV id Q) σ
  | .loop c, Q, σ => ∃ (I : Nat → VS → Prop) (n0 : Nat) (σ0 : VS), WkS σ σ0 ∧ I n0 σ0 ∧ ∀ n σ', I n σ' → vcode P Γ Sp c (thenV (fun σ2 => ∃ m σ3, WkS σ2 σ3 ∧ I m σ3 ∧ m < n) Q) σ'
  | .exit id, Q, σ => Q (.exit id) σ
  | .ret, Q, σ => Q .ret σ
  | _, _, _ => False

/-- Every operation's slot is one of the frame's. -/
def codeDsts (N : Nat) : Code → Bool
  | .region _ ops _ => dstsB N ops.toList
  | .seq x y => codeDsts N x && codeDsts N y
  | .cond _ x y => codeDsts N x && codeDsts N y
  | .block _ c => codeDsts N c
  | .loop c => codeDsts N c
  | _ => true

theorem code_sound (hSp : ∀ f args r, Sp f args r → Spec P Γ f args r) (hm : P.follows .mixedOrders = true) {ro : Option Nat} {n : Nat} : ∀ (c : Code) {Q : Exit → Act → World → Prop} {C : Exit → VS → Prop} {σ : VS} {a : Act} {w : World}, codeDsts N c = true → Rp Γ X N ds σ a w → vcode P Γ Sp c C σ →
    (∀ e σ' a' w', C e σ' → Rp Γ X N ds σ' a' w' → Q e a' w') → c.wpIn (fr ro) n P Q a w
  | .skip, Q, C, σ, a, w, hd, h, hk, hQ => wpIn_skip (hQ _ _ _ _ hk h)
  | .region id ⟨l⟩ false, Q, C, σ, a, w, hd, h, hk, hQ => by
    exact region_sound hSp h hd hk fun σ' a' w' hc hr => hQ _ _ _ _ hc hr
  | .region id ops true, Q, C, σ, a, w, hd, h, hk, hQ => by
    exact drawn_sound hSp hm h hd hk fun σ' a' w' hc hr => hQ _ _ _ _ hc hr
  | .seq x y, Q, C, σ, a, w, hd, h, hk, hQ => by
    simp only [codeDsts, Bool.and_eq_true] at hd
    refine wpIn_seq (code_sound hSp hm x hd.1 h hk fun e σ' a' w' hc hr => ?_)
    cases e with
    | normal =>
      rcases hc with hc | ⟨τ, hw, hc⟩
      · exact code_sound hSp hm y hd.2 hr hc hQ
      · exact code_sound hSp hm y hd.2 (hr.weaken hw) hc hQ
    | _ => exact hQ _ _ _ _ hc hr
  | .cond c x y, Q, C, σ, a, w, hd, h, hk, hQ => by
    simp only [codeDsts, Bool.and_eq_true] at hd
    simp only [vcode, vbool] at hk
    split at hk
    · rename_i b hb
      have hv : a.eval c = .bool b := by
        obtain ⟨G, St, own, h⟩ := h
        have := h.ev (Γ := Γ) c
        rw [hb] at this
        exact pbool this
      cases b with
      | true => exact wpIn_cond_true hv (code_sound hSp hm x hd.1 h (hk.1 rfl) hQ)
      | false => exact wpIn_cond_false hv (code_sound hSp hm y hd.2 h (hk.2 rfl) hQ)
    · exact hk.elim
  | .block id c, Q, C, σ, a, w, hd, h, hk, hQ => by
    refine wpIn_block (code_sound hSp hm c hd h hk fun e σ' a' w' hc hr => ?_)
    cases e with
    | exit id' =>
      simp only [blockV] at hc
      simp only [Exit.inBlock]
      split at hc
      · rename_i e; rw [if_pos e]; exact hQ _ _ _ _ hc hr
      · rename_i e; rw [if_neg e]; exact hQ _ _ _ _ hc hr
    | _ => exact hQ _ _ _ _ hc hr
  | .loop c, Q, C, σ, a, w, hd, h, hk, hQ => by
    simp only [vcode] at hk
    obtain ⟨I, n0, σ0, hw, h0, hround⟩ := hk
    refine wpIn_loop_ghost (fun m a w => ∃ σ', I m σ' ∧ Rp Γ X N ds σ' a w) n0 ⟨σ0, h0, h.weaken hw⟩ ?_
    rintro m a' w' ⟨σ', hI, hR⟩
    refine code_sound hSp hm c hd hR (hround m σ' hI) fun e σ2 a2 w2 hc hr => ?_
    cases e with
    | normal =>
      obtain ⟨m', σ3, hw3, hI3, hlt⟩ := hc
      exact ⟨m', hlt, σ3, hI3, hr.weaken hw3⟩
    | _ => exact hQ _ _ _ _ hc hr
  | .exit id, Q, C, σ, a, w, hd, h, hk, hQ => wpIn_exit (hQ _ _ _ _ hk h)
  | .ret, Q, C, σ, a, w, hd, h, hk, hQ => wpIn_ret (hQ _ _ _ _ hk h)
  | .rangeFunc .., Q, C, σ, a, w, hd, h, hk, hQ => hk.elim
  | .scope _, Q, C, σ, a, w, hd, h, hk, hQ => hk.elim
  | .label _, Q, C, σ, a, w, hd, h, hk, hQ => hk.elim
  | .goto _, Q, C, σ, a, w, hd, h, hk, hQ => hk.elim
  | .refuse _, Q, C, σ, a, w, hd, h, hk, hQ => hk.elim
end Go.Vm
