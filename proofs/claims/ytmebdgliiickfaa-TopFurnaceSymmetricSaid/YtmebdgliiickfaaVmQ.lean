import Derived.Test.YtmebdgliiickfaaVmP
set_option linter.all false
/- Calls: what a function's contract says, and how its results come into a frame. -/
namespace Go.Vm
variable {Γ : Nat → Option (List V)} {X : Ctx} {N : Nat} {ds : List Deferred} {σ : VS} {a : Act} {w w' : World} {G G' : GG} {St St' : Nat → Nat → Prop} {own : Nat → Prop} {P : Program} {K : Eff → Prop}

/-- Results, in the world at the return; 'B': how many blocks there were at the call; 'bl': the blocks of the arrays that are handed over. -/
def repRC (St : Nat → Nat → Prop) (w : World) (B : Nat) : RC → Value → List Nat → Prop
  | .p v, u, bl => rep St (rdW w) v u ∧ bl = []
  | .nilS, u, bl => u = .slice none 0 0 ∧ bl = []
  | .arr e es xs, u, bl => 0 < es ∧ (∃ vs, w.ownsRow 0 e es u xs.length vs ∧ repEs St (rdW w) es xs vs) ∧ bl = u.ownBlock.toList ∧ ∀ b ∈ bl, B ≤ b ∧ b < w.heap.size ∧ ∀ o, ¬ St b o
def repRCs (St : Nat → Nat → Prop) (w : World) (B : Nat) : List RC → List Value → List Nat → Prop
  | [], vs, bl => vs = [] ∧ bl = []
  | r :: rs, vs, bl => ∃ v vr b1 b2, vs = v :: vr ∧ bl = b1 ++ b2 ∧ v.oneCell' = true ∧ repRC St w B r v b1 ∧ repRCs St w B rs vr b2
def repR1 (St : Nat → Nat → Prop) (w : World) (B : Nat) : R1 → Value → List Nat → Prop
  | .c r, u, bl => repRC St w B r u bl
  | .agg rs, u, bl => ∃ vs, u = .agg vs ∧ repRCs St w B rs vs.toList bl
def repR1s (St : Nat → Nat → Prop) (w : World) (B : Nat) : List R1 → List Value → List Nat → Prop
  | [], vs, bl => vs = [] ∧ bl = []
  | r :: rs, vs, bl => ∃ v vr b1 b2, vs = v :: vr ∧ bl = b1 ++ b2 ∧ repR1 St w B r v b1 ∧ repR1s St w B rs vr b2
def repR (St : Nat → Nat → Prop) (w : World) (B : Nat) : R → Value → List Nat → Prop
  | .one r, u, bl => repR1 St w B r u bl
  | .tup rs, u, bl => ∃ vs, u = .tuple vs ∧ repR1s St w B rs vs.toList bl

def Enters (P : Program) (f : FuncId) : Prop := ∀ args w, (callFunc f args).run P w = .ok (.enter f args) w

/-- THE CONTRACT: in every world in which the arguments read as 'args', the call returns what reads as 'r'; no block that was there has turned. -/
def Spec (P : Program) (Γ : Nat → Option (List V)) (f : FuncId) (args : List V) (r : R) : Prop :=
  Enters P f ∧ ∀ (St : Nat → Nat → Prop) (w : World) (vs : List Value), (∀ b o, St b o → b < w.heap.size) → (∀ g cs, Γ g = some cs → repA St (rdW w) cs g 0) → repT St (rdW w) args vs →
    Calls P f vs.toArray w fun e w' => ∃ v St' bl, e = .returned v ∧ RowKit.Below w.heap.size w w' ∧ (∀ b o, St b o → St' b o) ∧ (∀ b o, St' b o → St b o ∨ w.heap.size ≤ b) ∧ (∀ b o, St' b o → b < w'.heap.size) ∧ bl.Nodup ∧ repR St' w' w.heap.size r v bl

theorem enters_of {f : FuncId} {fn : Func} (h : P.funcs[f]? = some fn) (h1 : fn.name ≠ "runtime.NumGoroutine") {c : Code} (h2 : fn.body = some c) : Enters P f := fun args w => by
  simp [callFunc, h, h1, h2]

/-- More cells are stable. -/
theorem RepD.more (h : RepD Γ X N ds σ a w G St own) {St' : Nat → Nat → Prop} {m : Nat} (h1 : ∀ b o, St b o → St' b o) (h2 : ∀ b o, St' b o → St b o ∨ m ≤ b) (h3 : ∀ t b, blkOf σ.mem G t = some b → b < m) (hB : X.B ≤ m) (h4 : ∀ b o, St' b o → b < w.heap.size) :
    RepD Γ X N ds σ a w G St' own := by
  have hrf := Refs.refl σ.mem G
  have hrd : ∀ b o, St b o → rdW w b o = rdW w b o := fun _ _ _ => rfl
  have old : ∀ t b o, blkOf σ.mem G t = some b → St' b o → St b o := fun t b o hb ho => by
    rcases h2 b o ho with ho | ho
    · exact ho
    · have := h3 t b hb; omega
  exact { h with
    st0 := fun b o hb => h1 b o (h.st0 b o hb)
    stn := fun b o hb => by
      rcases h2 b o hb with hb | hb
      · exact h.stn b o hb
      · exact .inr (by omega)
    stlt := h4
    glob := fun g cs hg => repA_mono h1 hrd cs g 0 (h.glob g cs hg)
    slots := fun t => repLv_mono hrf h1 hrd _ _ (h.slots t)
    boxes := fun t n hb => by
      obtain ⟨cs, e, p, q, r⟩ := h.boxes t n hb
      refine ⟨cs, e, p, q, fun j hj => ?_⟩
      obtain ⟨l, v, r1, r2, r3, r4⟩ := r j hj
      exact ⟨l, v, r1, r2, repLv_mono hrf h1 hrd _ _ r3, r4⟩
    arrs := fun t g e es xs hb => by
      obtain ⟨h0, vs, p, q⟩ := h.arrs t g e es xs hb
      exact ⟨h0, vs, p, repEs_mono h1 hrd q⟩
    sbox := fun t n hb hf o ho => h.sbox t n hb hf o (old t _ o (h.blkB hb) ho)
    sarr := fun t g e es xs b hb hv => ⟨fun hf o ho => (h.sarr t g e es xs b hb hv).1 hf o (old t b o (by rw [h.blkA hb]; exact hv) ho), fun o hlo ho => (h.sarr t g e es xs b hb hv).2 o hlo (old t b o (by rw [h.blkA hb]; exact hv) ho)⟩ }

/-- What new arrays do to a frame. -/
structure Adds (σ σ' : VS) (G G' : GG) (i i' d : Nat) (bl : List Nat) : Prop where
  get : σ'.get = σ.get
  refs : Refs σ.mem G σ'.mem G'
  blk : ∀ t b, blkOf σ'.mem G' t = some b → blkOf σ.mem G t = some b ∨ b ∈ bl
  fr : ∀ j, i' ≤ j → fresh σ (siteN d j) = true → fresh σ' (siteN d j) = true
  le : i ≤ i'

theorem siteN_inj {d i j : Nat} (h : siteN d i = siteN d j) : i = j := by
  unfold siteN at h
  split at h <;> split at h <;> omega

theorem Refs.trans {m1 m2 m3 : Key → M} {G1 G2 G3 : GG} (h : Refs m1 G1 m2 G2) (k : Refs m2 G2 m3 G3) : Refs m1 G1 m3 G3 where
  b t n hb := by
    obtain ⟨p, q⟩ := h.b t n hb
    obtain ⟨p', q'⟩ := k.b t n p
    exact ⟨p', q'.trans q⟩
  a t g e es xs ha := by
    obtain ⟨g2, e2, es2, xs2, p, q⟩ := h.a t g e es xs ha
    obtain ⟨g3, e3, es3, xs3, p', q'⟩ := k.a t g2 e2 es2 xs2 p
    refine ⟨g3, e3, es3, xs3, p', ?_⟩
    rcases q with q | ⟨q1, q2, q3, q4⟩ <;> rcases q' with q' | ⟨q1', q2', q3', q4'⟩
    · left; omega
    · left; omega
    · left; omega
    · exact .inr ⟨by omega, by omega, by omega, q4'.trans q4⟩
theorem Adds.trans {σ1 σ2 σ3 : VS} {G1 G2 G3 : GG} {i j k d : Nat} {b1 b2 : List Nat} (h : Adds σ1 σ2 G1 G2 i j d b1) (h' : Adds σ2 σ3 G2 G3 j k d b2) : Adds σ1 σ3 G1 G3 i k d (b1 ++ b2) where
  get := h'.get.trans h.get
  refs := h.refs.trans h'.refs
  blk t b hb := by
    rcases h'.blk t b hb with p | p
    · rcases h.blk t b p with q | q
      · exact .inl q
      · exact .inr (List.mem_append_left _ q)
    · exact .inr (List.mem_append_right _ p)
  fr m hm hf := h'.fr m hm (h.fr m (by have := h'.le; omega) hf)
  le := Nat.le_trans h.le h'.le

theorem RepD.addRC (h : RepD Γ X N ds σ a w G St own) {B d i : Nat} {r : RC} {u : Value} {bl : List Nat} (hr : repRC St w B r u bl) (hb : ∀ b ∈ bl, own b ∧ ∀ t, blkOf σ.mem G t ≠ some b) (hf : ∀ j, i ≤ j → j < (r.toL d i).2.1 → fresh σ (siteN d j) = true) :
    ∃ G', RepD Γ X N ds (σ.upd (r.toL d i).2.2) a w G' St own ∧ repLv (σ.upd (r.toL d i).2.2).mem G' St (rdW w) (r.toL d i).1 u ∧ Adds σ (σ.upd (r.toL d i).2.2) G G' i (r.toL d i).2.1 d bl := by
  cases r with
  | p v =>
    simp only [repRC] at hr
    exact ⟨G, h, by simp only [RC.toL, repLv]; exact hr.1, rfl, .refl _ _, fun t b h => .inl h, fun j _ hj => hj, Nat.le_refl _⟩
  | nilS =>
    simp only [repRC] at hr
    exact ⟨G, h, by simp only [RC.toL, repLv]; exact hr.1, rfl, .refl _ _, fun t b h => .inl h, fun j _ hj => hj, Nat.le_refl _⟩
  | arr e es xs =>
    simp only [repRC] at hr
    obtain ⟨h0, ⟨vs, ho, hE⟩, hbl, hnb⟩ := hr
    have hfr := hf i (Nat.le_refl _) (by simp [RC.toL])
    obtain ⟨hfb, hfa⟩ := fresh_iff.1 hfr
    have hmem : ∀ b, u.ownBlock = some b → b ∈ bl := fun b hb => by rw [hbl, hb]; simp
    have hn := h.newArr hfr h0 ho hE (fun b hb' => ⟨(hb b (hmem b hb')).1, (hb b (hmem b hb')).2, (hnb b (hmem b hb')).2.2⟩)
    refine ⟨_, hn, ?_, rfl, ?_, fun t b hbk => ?_, fun j hj hjf => ?_, by simp [RC.toL]⟩
    · simp only [RC.toL, repLv]
      refine ⟨0, e, es, xs, by simp [VS.upd, look], Nat.le_refl _, ?_, fun _ => by simp⟩
      rcases ho.2 with ⟨p1, _⟩ | ⟨blk, cap, cur, p1, _⟩ <;> rw [p1] <;> rfl
    · simp only [RC.toL]
      exact {
        b := fun t n hb => ⟨by simp [VS.upd, look, hb], rfl⟩
        a := fun t g e' es' xs' ha => by
          have : t ≠ siteN d i := fun e0 => by rw [e0, hfa] at ha; cases ha
          exact ⟨g, e', es', xs', by simp [VS.upd, look, this, ha], .inr ⟨rfl, rfl, rfl, by simp [this]⟩⟩ }
    · simp only [RC.toL] at hbk
      unfold blkOf at hbk
      by_cases ht : t = siteN d i
      · subst ht
        simp [VS.upd, look, hfb] at hbk
        exact .inr (hmem b hbk)
      · left; unfold blkOf; simpa [VS.upd, look, ht] using hbk
    · simp only [RC.toL] at hj ⊢
      have hne : siteN d j ≠ siteN d i := fun e0 => by have := siteN_inj e0; omega
      obtain ⟨p, q⟩ := fresh_iff.1 hjf
      exact fresh_iff.2 ⟨by simp [VS.upd, look, p], by simp [VS.upd, look, q, hne]⟩

theorem toL_le (d : Nat) : ∀ (rs : List RC) (i : Nat), i ≤ (rcsToL d i rs).2.1
  | [], i => Nat.le_refl _
  | r :: rs, i => by
    simp only [rcsToL]
    have h1 : i ≤ (r.toL d i).2.1 := by cases r <;> simp [RC.toL]
    exact Nat.le_trans h1 (toL_le d rs _)

theorem RepD.addRCs {B d : Nat} : ∀ {rs : List RC} {i : Nat} {us : List Value} {bl : List Nat} {σ : VS} {G : GG}, RepD Γ X N ds σ a w G St own → repRCs St w B rs us bl → bl.Nodup → (∀ b ∈ bl, own b ∧ ∀ t, blkOf σ.mem G t ≠ some b) → (∀ j, i ≤ j → j < (rcsToL d i rs).2.1 → fresh σ (siteN d j) = true) →
    ∃ G', RepD Γ X N ds (σ.upd (rcsToL d i rs).2.2) a w G' St own ∧ repLs (σ.upd (rcsToL d i rs).2.2).mem G' St (rdW w) (rcsToL d i rs).1 us ∧ (∀ u ∈ us, u.oneCell' = true) ∧ Adds σ (σ.upd (rcsToL d i rs).2.2) G G' i (rcsToL d i rs).2.1 d bl
  | [], i, us, bl, σ, G, h, hr, _, _, _ => by
    simp only [repRCs] at hr
    obtain ⟨rfl, rfl⟩ := hr
    exact ⟨G, h, by simp [rcsToL, repLs], by simp, rfl, .refl _ _, fun t b h => .inl h, fun j _ hj => hj, Nat.le_refl _⟩
  | r :: rs, i, us, bl, σ, G, h, hr, hnd, hb, hf => by
    simp only [repRCs] at hr
    obtain ⟨v, vr, b1, b2, rfl, rfl, ho, h1, h2⟩ := hr
    simp only [rcsToL] at hf ⊢
    have hle := toL_le d rs (r.toL d i).2.1
    obtain ⟨G1, k1, k2, k3⟩ := h.addRC h1 (fun b hbb => hb b (List.mem_append_left _ hbb)) (fun j hj hj2 => hf j hj (by omega))
    have hil := k3.le
    obtain ⟨G2, m1, m2, m3, m4⟩ := RepD.addRCs k1 h2 (List.nodup_append.1 hnd).2.1 (fun b hbb => ⟨(hb b (List.mem_append_right _ hbb)).1, fun t ht => by
      rcases k3.blk t b ht with p | p
      · exact (hb b (List.mem_append_right _ hbb)).2 t p
      · exact (List.nodup_append.1 hnd).2.2 b p b hbb rfl⟩) (fun j hj hj2 => k3.fr j hj (hf j (by omega) hj2))
    rw [upd_upd] at m1 m2 m4
    refine ⟨G2, m1, ?_, fun u hu => ?_, k3.trans m4⟩
    · simp only [repLs]
      refine ⟨v, vr, rfl, ?_, m2⟩
      have := repLv_mono m4.refs (fun _ _ h => h) (fun _ _ _ => rfl) _ _ k2
      exact this
    · rcases List.mem_cons.1 hu with rfl | hu
      · exact ho
      · exact m3 u hu

theorem RepD.addR1 (h : RepD Γ X N ds σ a w G St own) {B d i : Nat} {r : R1} {u : Value} {bl : List Nat} (hr : repR1 St w B r u bl) (hnd : bl.Nodup) (hb : ∀ b ∈ bl, own b ∧ ∀ t, blkOf σ.mem G t ≠ some b) (hf : ∀ j, i ≤ j → j < (r.toL d i).2.1 → fresh σ (siteN d j) = true) :
    ∃ G', RepD Γ X N ds (σ.upd (r.toL d i).2.2) a w G' St own ∧ repLv (σ.upd (r.toL d i).2.2).mem G' St (rdW w) (r.toL d i).1 u ∧ Adds σ (σ.upd (r.toL d i).2.2) G G' i (r.toL d i).2.1 d bl := by
  cases r with
  | c r => exact h.addRC hr hb hf
  | agg rs =>
    simp only [repR1] at hr
    obtain ⟨vs, rfl, hr⟩ := hr
    simp only [R1.toL] at hf ⊢
    obtain ⟨G1, k1, k2, k3, k4⟩ := RepD.addRCs h hr hnd hb hf
    refine ⟨G1, k1, ?_, k4⟩
    have := repLv_mkAgg k2 k3
    simpa using this

theorem r1sToL_le (d : Nat) : ∀ (rs : List R1) (i : Nat), i ≤ (r1sToL d i rs).2.1
  | [], i => Nat.le_refl _
  | r :: rs, i => by
    simp only [r1sToL]
    have h1 : i ≤ (r.toL d i).2.1 := by
      cases r with
      | c r => cases r <;> simp [R1.toL, RC.toL]
      | agg rs => exact toL_le d rs i
    exact Nat.le_trans h1 (r1sToL_le d rs _)

theorem RepD.addR1s {B d : Nat} : ∀ {rs : List R1} {i : Nat} {us : List Value} {bl : List Nat} {σ : VS} {G : GG}, RepD Γ X N ds σ a w G St own → repR1s St w B rs us bl → bl.Nodup → (∀ b ∈ bl, own b ∧ ∀ t, blkOf σ.mem G t ≠ some b) → (∀ j, i ≤ j → j < (r1sToL d i rs).2.1 → fresh σ (siteN d j) = true) →
    ∃ G', RepD Γ X N ds (σ.upd (r1sToL d i rs).2.2) a w G' St own ∧ repLs (σ.upd (r1sToL d i rs).2.2).mem G' St (rdW w) (r1sToL d i rs).1 us ∧ Adds σ (σ.upd (r1sToL d i rs).2.2) G G' i (r1sToL d i rs).2.1 d bl
  | [], i, us, bl, σ, G, h, hr, _, _, _ => by
    simp only [repR1s] at hr
    obtain ⟨rfl, rfl⟩ := hr
    exact ⟨G, h, by simp [r1sToL, repLs], rfl, .refl _ _, fun t b h => .inl h, fun j _ hj => hj, Nat.le_refl _⟩
  | r :: rs, i, us, bl, σ, G, h, hr, hnd, hb, hf => by
    simp only [repR1s] at hr
    obtain ⟨v, vr, b1, b2, rfl, rfl, h1, h2⟩ := hr
    simp only [r1sToL] at hf ⊢
    have hle := r1sToL_le d rs (r.toL d i).2.1
    obtain ⟨G1, k1, k2, k3⟩ := h.addR1 h1 (List.nodup_append.1 hnd).1 (fun b hbb => hb b (List.mem_append_left _ hbb)) (fun j hj hj2 => hf j hj (by omega))
    have hil := k3.le
    obtain ⟨G2, m1, m2, m4⟩ := RepD.addR1s k1 h2 (List.nodup_append.1 hnd).2.1 (fun b hbb => ⟨(hb b (List.mem_append_right _ hbb)).1, fun t ht => by
      rcases k3.blk t b ht with p | p
      · exact (hb b (List.mem_append_right _ hbb)).2 t p
      · exact (List.nodup_append.1 hnd).2.2 b p b hbb rfl⟩) (fun j hj hj2 => k3.fr j hj (hf j (by omega) hj2))
    rw [upd_upd] at m1 m2 m4
    refine ⟨G2, m1, ?_, k3.trans m4⟩
    simp only [repLs]
    exact ⟨v, vr, rfl, repLv_mono m4.refs (fun _ _ h => h) (fun _ _ _ => rfl) _ _ k2, m2⟩

/-- The number of arrays among results. -/
def R.cnt (d : Nat) : R → Nat
  | .one r => (r.toL d 0).2.1
  | .tup rs => (r1sToL d 0 rs).2.1
theorem RepD.addR (h : RepD Γ X N ds σ a w G St own) {B d : Nat} {r : R} {u : Value} {bl : List Nat} (hr : repR St w B r u bl) (hnd : bl.Nodup) (hb : ∀ b ∈ bl, own b ∧ ∀ t, blkOf σ.mem G t ≠ some b) (hf : ∀ j, j < r.cnt d → fresh σ (siteN d j) = true) :
    ∃ G', RepD Γ X N ds (σ.upd (r.toL d).2) a w G' St own ∧ repLv (σ.upd (r.toL d).2).mem G' St (rdW w) (r.toL d).1 u := by
  cases r with
  | one r =>
    obtain ⟨G1, k1, k2, _⟩ := h.addR1 (i := 0) hr hnd hb (fun j _ hj => hf j hj)
    exact ⟨G1, k1, k2⟩
  | tup rs =>
    simp only [repR] at hr
    obtain ⟨vs, rfl, hr⟩ := hr
    obtain ⟨G1, k1, k2, _⟩ := RepD.addR1s (i := 0) h hr hnd hb (fun j _ hj => hf j hj)
    refine ⟨G1, k1, ?_⟩
    simp only [R.toL, repLv]
    exact ⟨vs, rfl, k2⟩
end Go.Vm
