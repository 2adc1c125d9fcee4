import Derived.Test.YtmebdgliiickfaaVmD
set_option linter.all false
/- How a frame that is as the value machine has it steps on. -/
namespace Go.Vm
variable {Γ : Nat → Option (List V)} {X : Ctx} {N : Nat} {ds : List Deferred} {σ : VS} {a : Act} {w w' : World} {G G' : GG} {St St' : Nat → Nat → Prop} {own : Nat → Prop}

abbrev newOwn (own : Nat → Prop) (w w' : World) : Nat → Prop := fun b => own b ∨ (w.heap.size ≤ b ∧ b < w'.heap.size)

theorem look_cellsW {d : Nat} : ∀ {ls : List L} {j0 : Nat} {t j : Nat} {m : M}, look (.c t j) m (cellsW d j0 ls) = if t = d ∧ j0 ≤ j then (match ls[j - j0]? with | some l => .cell l | none => m) else m
  | [], j0, t, j, m => by simp [cellsW, look]
  | l :: ls, j0, t, j, m => by
    simp only [cellsW, look, Key.c.injEq]
    by_cases h : t = d ∧ j = j0
    · obtain ⟨rfl, rfl⟩ := h; simp
    · rw [if_neg h, look_cellsW]
      by_cases h1 : t = d
      · by_cases h2 : j0 ≤ j
        · have h3 : j0 + 1 ≤ j := by have : j ≠ j0 := fun e => h ⟨h1, e⟩; omega
          have : j - j0 = (j - (j0 + 1)) + 1 := by omega
          simp [h1, h2, h3, this]
        · have : ¬ (j0 + 1 ≤ j) := by omega
          simp [h1, h2, this]
      · simp [h1]
theorem look_cellsW_b {d t : Nat} {m : M} : ∀ {ls : List L} {j0 : Nat}, look (.b t) m (cellsW d j0 ls) = m
  | [], _ => rfl
  | l :: ls, j0 => by simp only [cellsW, look]; rw [if_neg (by simp)]; exact look_cellsW_b
theorem look_cellsW_f {d t : Nat} {m : M} : ∀ {ls : List L} {j0 : Nat}, look (.f t) m (cellsW d j0 ls) = m
  | [], _ => rfl
  | l :: ls, j0 => by simp only [cellsW, look]; rw [if_neg (by simp)]; exact look_cellsW_f
theorem look_cellsW_a {d t : Nat} {m : M} : ∀ {ls : List L} {j0 : Nat}, look (.a t) m (cellsW d j0 ls) = m
  | [], _ => rfl
  | l :: ls, j0 => by simp only [cellsW, look]; rw [if_neg (by simp)]; exact look_cellsW_a
theorem isNone_iff {m : M} : isNone m = true ↔ m = .none := by cases m <;> simp [isNone]
theorem fresh_iff {d : Nat} : fresh σ d = true ↔ σ.mem (.b d) = .none ∧ σ.mem (.a d) = .none := by simp [fresh, isNone_iff]

theorem RepD.blk_lt (h : RepD Γ X N ds σ a w G St own) {t b : Nat} (hb : blkOf σ.mem G t = some b) : b < w.heap.size := (h.ownlt b (h.ownb t b hb)).1

theorem RepD.blkB (_ : RepD Γ X N ds σ a w G St own) {t n : Nat} (hb : σ.mem (.b t) = .box n) : blkOf σ.mem G t = some (G.bk t) := by simp [blkOf, hb]
theorem RepD.blkA (h : RepD Γ X N ds σ a w G St own) {t g es : Nat} {e : TypeId} {xs : List V} (hb : σ.mem (.a t) = .arr g e es xs) : blkOf σ.mem G t = (G.av t).ownBlock := by
  unfold blkOf
  split
  · rename_i n h1; exact (h.both t n g e es xs h1 hb).elim
  · simp [hb]

theorem ownsRow_block {base : Nat} {e : TypeId} {size n : Nat} {v : Value} {xs : List Value} (h : w.ownsRow base e size v n xs) (hb : ∀ b, v.ownBlock = some b → w'.heap[b]? = w.heap[b]?) : w'.ownsRow base e size v n xs := by
  obtain ⟨h1, h2⟩ := h
  refine ⟨h1, ?_⟩
  rcases h2 with h2 | ⟨g, cap, cur, rfl, p, q, r⟩
  · exact .inl h2
  · exact .inr ⟨g, cap, cur, rfl, p, by rw [hb g rfl]; exact q, r⟩

theorem heap_alloc_new (w : World) (o : Obj) : (w.alloc o).heap[w.heap.size]? = some o := by
  show (w.heap.push o)[w.heap.size]? = _
  simp

/-- Nothing that was there has turned. -/
theorem RepD.ext (h : RepD Γ X N ds σ a w G St own) (hs : Stp (fun _ => False) w w') : RepD Γ X N ds σ a w' G St (newOwn own w w') := by
  have hrd : ∀ b o, St b o → rdW w' b o = rdW w b o := fun b o hb => rdW_of_block (hs.block b (h.stlt b o hb) id)
  have hbl : ∀ t b, blkOf σ.mem G t = some b → w'.heap[b]? = w.heap[b]? := fun t b hb => hs.block b (h.blk_lt hb) id
  have hrf := Refs.refl σ.mem G
  have h1 : ∀ b o, St b o → St b o := fun _ _ h => h
  exact {
    size := h.size, defs := h.defs
    inv := X.step own w w' h.inv (hs.mono fun _ h => h.elim)
    st0 := h.st0, stn := h.stn
    stlt := fun b o hb => Nat.lt_of_lt_of_le (h.stlt b o hb) hs.size
    blt := Nat.le_trans h.blt hs.size
    ownlt := fun b hb => by
      rcases hb with hb | ⟨p, q⟩
      · exact ⟨Nat.lt_of_lt_of_le (h.ownlt b hb).1 hs.size, (h.ownlt b hb).2⟩
      · exact ⟨q, Nat.le_trans h.blt p⟩
    glob := fun g cs hg => repA_mono h1 hrd cs g 0 (h.glob g cs hg)
    slots := fun t => repLv_mono hrf h1 hrd _ _ (h.slots t)
    boxes := fun t n hb => by
      obtain ⟨cs, e, p, q, r⟩ := h.boxes t n hb
      refine ⟨cs, e, by rw [hbl t _ (h.blkB hb)]; exact p, q, fun j hj => ?_⟩
      obtain ⟨l, v, r1, r2, r3, r4⟩ := r j hj
      exact ⟨l, v, r1, r2, repLv_mono hrf h1 hrd _ _ r3, r4⟩
    arrs := fun t g e es xs hb => by
      obtain ⟨h0, vs, p, q⟩ := h.arrs t g e es xs hb
      exact ⟨h0, vs, ownsRow_block p fun b hv => hbl t b (by rw [h.blkA hb]; exact hv), repEs_mono h1 hrd q⟩
    disj := h.disj, both := h.both
    ownb := fun t b hb => .inl (h.ownb t b hb)
    sbox := h.sbox, sarr := h.sarr }

theorem getD_set (t : Array Value) (d k : Nat) (v : Value) (hd : d < t.size) : (t.setIfInBounds d v).getD k undef = if k = d then v else t.getD k undef := by
  simp only [Array.getD_eq_getD_getElem?, Array.getElem?_setIfInBounds]
  by_cases h : d = k
  · subst h; simp [hd]
  · rw [if_neg h, if_neg fun e => h e.symm]

/-- A slot is written. -/
theorem RepD.put (h : RepD Γ X N ds σ a w G St own) {d : Nat} (hd : d < N) {l : L} {v : Value} (hv : repLv σ.mem G St (rdW w) l v) : RepD Γ X N ds (σ.put d l) (a.put (some d) v) w G St own :=
  { h with
    size := by simp [Act.put, h.size]
    defs := by simp [Act.put, h.defs]
    slots := fun t => by
      simp only [VS.put, Act.put]
      rw [getD_set _ _ _ _ (by rw [h.size]; exact hd)]
      split
      · exact hv
      · exact h.slots t }

theorem RepD.putO (h : RepD Γ X N ds σ a w G St own) {d : Option Nat} (hd : ∀ d', d = some d' → d' < N) {l : L} {v : Value} (hv : repLv σ.mem G St (rdW w) l v) : RepD Γ X N ds (σ.putO d l) (a.put d v) w G St own := by
  cases d with
  | none => exact h
  | some d => exact h.put (hd d rfl) hv

/-- A new box. -/
theorem RepD.newBox (h : RepD Γ X N ds σ a w G St own) {d : Nat} (hf : fresh σ d = true) {ls : List L} {vs : List Value} (hv : repLs σ.mem G St (rdW w) ls vs) (h1 : ∀ v ∈ vs, v.oneCell' = true) (e : TypeId) :
    RepD Γ X N ds (σ.upd ((.b d, .box ls.length) :: (.f d, .none) :: cellsW d 0 ls)) a (w.alloc (.cells vs.toArray e)) ⟨fun t => if t = d then w.heap.size else G.bk t, G.av⟩ St (newOwn own w (w.alloc (.cells vs.toArray e))) := by
  obtain ⟨hfb, hfa⟩ := fresh_iff.1 hf
  have h' := h.ext (Stp.alloc (fun _ => False) w (.cells vs.toArray e))
  have hlen := repLs_length hv
  have mb : ∀ t, (σ.upd ((.b d, .box ls.length) :: (.f d, .none) :: cellsW d 0 ls)).mem (.b t) = if t = d then .box ls.length else σ.mem (.b t) := fun t => by
    simp only [VS.upd, look, Key.b.injEq, reduceCtorEq, if_false, look_cellsW_b]
  have ma : ∀ t, (σ.upd ((.b d, .box ls.length) :: (.f d, .none) :: cellsW d 0 ls)).mem (.a t) = σ.mem (.a t) := fun t => by
    simp only [VS.upd, look, reduceCtorEq, if_false, look_cellsW_a]
  have mf : ∀ t, (σ.upd ((.b d, .box ls.length) :: (.f d, .none) :: cellsW d 0 ls)).mem (.f t) = if t = d then .none else σ.mem (.f t) := fun t => by
    simp only [VS.upd, look, Key.f.injEq, reduceCtorEq, if_false, look_cellsW_f]
  have mc : ∀ t j, (σ.upd ((.b d, .box ls.length) :: (.f d, .none) :: cellsW d 0 ls)).mem (.c t j) = if t = d then (match ls[j]? with | some l => .cell l | none => σ.mem (.c t j)) else σ.mem (.c t j) := fun t j => by
    simp only [VS.upd, look, reduceCtorEq, if_false, look_cellsW, Nat.zero_le, and_true, Nat.sub_zero]
  generalize hσ : σ.upd ((.b d, .box ls.length) :: (.f d, .none) :: cellsW d 0 ls) = σ' at mb ma mf mc
  have hget : σ'.get = σ.get := by rw [← hσ]; rfl
  have hrf : Refs σ.mem G σ'.mem ⟨fun t => if t = d then w.heap.size else G.bk t, G.av⟩ := {
    b := fun t n hb => by
      have : t ≠ d := fun e => by rw [e, hfb] at hb; cases hb
      exact ⟨by rw [mb, if_neg this]; exact hb, by simp [this]⟩
    a := fun t g e es xs ha => ⟨g, e, es, xs, by rw [ma]; exact ha, .inr ⟨rfl, rfl, rfl, rfl⟩⟩ }
  have hs : ∀ b o, St b o → St b o := fun _ _ h => h
  have hrd : ∀ b o, St b o → rdW (w.alloc (.cells vs.toArray e)) b o = rdW w b o := fun b o hb => rdW_of_block (RowKit.Below.heap_alloc w _ b (h.stlt b o hb))
  have hrd0 : ∀ b o, St b o → rdW (w.alloc (.cells vs.toArray e)) b o = rdW (w.alloc (.cells vs.toArray e)) b o := fun _ _ _ => rfl
  have blk : ∀ t b, blkOf σ'.mem ⟨fun t => if t = d then w.heap.size else G.bk t, G.av⟩ t = some b → (t = d ∧ b = w.heap.size) ∨ (t ≠ d ∧ blkOf σ.mem G t = some b) := fun t b hb => by
    unfold blkOf at hb
    rw [mb, ma] at hb
    by_cases ht : t = d
    · subst ht; simp at hb; exact .inl ⟨rfl, hb.symm⟩
    · refine .inr ⟨ht, ?_⟩
      unfold blkOf; simpa only [if_neg ht] using hb
  exact { h' with
    slots := fun t => by rw [hget]; exact repLv_mono hrf hs hrd0 _ _ (h'.slots t)
    boxes := fun t n hb => by
      rw [mb] at hb
      by_cases ht : t = d
      · subst ht
        simp at hb
        subst hb
        refine ⟨vs.toArray, e, by simp only [if_true]; exact heap_alloc_new w _, by simp [hlen], fun j hj => ?_⟩
        have hj' : j < vs.length := by omega
        refine ⟨ls[j], vs[j], by rw [mc]; simp [hj], by simp [hj'], ?_, h1 _ (List.getElem_mem _)⟩
        exact repLv_mono hrf hs hrd _ _ ((repLs_get.1 hv).2 j _ _ (by simp [hj]) (by simp [hj']))
      · rw [if_neg ht] at hb
        obtain ⟨cs, e', p, q, r⟩ := h'.boxes t n hb
        refine ⟨cs, e', by simp only [if_neg ht]; exact p, q, fun j hj => ?_⟩
        obtain ⟨l, v, r1, r2, r3, r4⟩ := r j hj
        exact ⟨l, v, by rw [mc, if_neg ht]; exact r1, r2, repLv_mono hrf hs hrd0 _ _ r3, r4⟩
    arrs := fun t g e' es xs hb => by rw [ma] at hb; exact h'.arrs t g e' es xs hb
    disj := fun t t' b hb hb' => by
      rcases blk t b hb with ⟨p, q⟩ | ⟨p, q⟩ <;> rcases blk t' b hb' with ⟨p', q'⟩ | ⟨p', q'⟩
      · rw [p, p']
      · have := h.blk_lt q'; omega
      · have := h.blk_lt q; omega
      · exact h.disj t t' b q q'
    both := fun t n g e' es xs hb ha => by
      rw [ma] at ha; rw [mb] at hb
      by_cases ht : t = d
      · subst ht; rw [hfa] at ha; cases ha
      · rw [if_neg ht] at hb; exact h.both t n g e' es xs hb ha
    ownb := fun t b hb => by
      rcases blk t b hb with ⟨p, q⟩ | ⟨p, q⟩
      · subst q; exact .inr ⟨Nat.le_refl _, by simp⟩
      · exact .inl (h.ownb t b q)
    sbox := fun t n hb hff o ho => by
      rw [mb] at hb; rw [mf] at hff
      by_cases ht : t = d
      · simp only [ht, if_true] at ho
        have := h.stlt _ _ ho; omega
      · rw [if_neg ht] at hb hff
        simp only [if_neg ht] at ho
        exact h.sbox t n hb hff o ho
    sarr := fun t g e' es xs b hb hv => by
      rw [ma] at hb
      refine ⟨fun hff => ?_, (h.sarr t g e' es xs b hb hv).2⟩
      rw [mf] at hff
      by_cases ht : t = d
      · subst ht; rw [hfa] at hb; cases hb
      · rw [if_neg ht] at hff
        exact (h.sarr t g e' es xs b hb hv).1 hff }
end Go.Vm
