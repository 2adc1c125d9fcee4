import Derived.Test.YtmebdgliiickfaaVmE
set_option linter.all false
/- Stores into own boxes and arrays, new arrays, and what is handed on. -/
namespace Go.Vm
variable {Γ : Nat → Option (List V)} {X : Ctx} {N : Nat} {ds : List Deferred} {σ : VS} {a : Act} {w w' : World} {G G' : GG} {St St' : Nat → Nat → Prop} {own : Nat → Prop}

/-- Cells of a box are written. -/
theorem RepD.setBox (h : RepD Γ X N ds σ a w G St own) {s m : Nat} (hb : σ.mem (.b s) = .box m) (hf : isNone (σ.mem (.f s)) = true) {j : Nat} {ls : List L} {vs : List Value} (hj : j + ls.length ≤ m)
    (hv : repLs σ.mem G St (rdW w) ls vs) (h1 : ∀ v ∈ vs, v.oneCell' = true) {cs : Array Value} {e : TypeId} (hc : w.heap[G.bk s]? = some (.cells cs e (0, 0))) :
    RepD Γ X N ds (σ.upd (cellsW s j ls)) a (w.setRow (G.bk s) (cs.toList.take j ++ vs ++ cs.toList.drop (j + vs.length)).toArray) G St (newOwn own w (w.setRow (G.bk s) (cs.toList.take j ++ vs ++ cs.toList.drop (j + vs.length)).toArray)) := by
  have hlen := repLs_length hv
  have hown : own (G.bk s) := h.ownb s _ (h.blkB hb)
  have hsb := h.sbox s m hb hf
  obtain ⟨cs', e', p, q, r⟩ := h.boxes s m hb
  rw [hc] at p
  simp only [Option.some.injEq, Obj.cells.injEq] at p
  obtain ⟨rfl, rfl, _⟩ := p
  generalize hnew : (cs.toList.take j ++ vs ++ cs.toList.drop (j + vs.length)).toArray = new
  have hnsz : new.size = m := by rw [← hnew]; simp; omega
  have hnget : ∀ k, new[k]? = if j ≤ k ∧ k < j + vs.length then vs[k - j]? else cs[k]? := fun k => by
    rw [← hnew]
    simp only [List.getElem?_toArray, List.append_assoc]
    by_cases h1 : k < j
    · rw [List.getElem?_append_left (by simp; omega), if_neg (by omega), List.getElem?_take_of_lt h1]; simp
    · rw [List.getElem?_append_right (by simp; omega)]
      have hl : (cs.toList.take j).length = j := by simp; omega
      rw [hl]
      by_cases h2 : k < j + vs.length
      · rw [List.getElem?_append_left (by omega), if_pos (by omega)]
      · rw [List.getElem?_append_right (by omega), if_neg (by omega), List.getElem?_drop]
        simp only [Array.getElem?_toList]
        congr 1
        omega
  have hst : Stp own w (w.setRow (G.bk s) new) := Stp.setRow _ hown
  have hrd : ∀ b o, St b o → rdW (w.setRow (G.bk s) new) b o = rdW w b o := fun b o hb' => rdW_of_block (setRow_other w _ b _ fun e => hsb o (e ▸ hb'))
  have hs : ∀ b o, St b o → St b o := fun _ _ h => h
  have mc : ∀ t k, (σ.upd (cellsW s j ls)).mem (.c t k) = if t = s ∧ j ≤ k then (match ls[k - j]? with | some l => .cell l | none => σ.mem (.c t k)) else σ.mem (.c t k) := fun t k => look_cellsW
  have mb : ∀ t, (σ.upd (cellsW s j ls)).mem (.b t) = σ.mem (.b t) := fun t => by simp only [VS.upd, look_cellsW_b]
  have ma : ∀ t, (σ.upd (cellsW s j ls)).mem (.a t) = σ.mem (.a t) := fun t => by simp only [VS.upd, look_cellsW_a]
  have mf : ∀ t, (σ.upd (cellsW s j ls)).mem (.f t) = σ.mem (.f t) := fun t => by simp only [VS.upd, look_cellsW_f]
  generalize hσ : σ.upd (cellsW s j ls) = σ' at mb ma mf mc
  have hget : σ'.get = σ.get := by rw [← hσ]; rfl
  have hrf : Refs σ.mem G σ'.mem G := {
    b := fun t n hb => ⟨by rw [mb]; exact hb, rfl⟩
    a := fun t g e es xs ha => ⟨g, e, es, xs, by rw [ma]; exact ha, .inr ⟨rfl, rfl, rfl, rfl⟩⟩ }
  have hbk : ∀ t, blkOf σ'.mem G t = blkOf σ.mem G t := fun t => by unfold blkOf; rw [mb, ma]
  exact {
    size := h.size, defs := h.defs
    inv := X.step own w _ h.inv hst
    st0 := h.st0, stn := h.stn
    stlt := fun b o hb => by simpa using h.stlt b o hb
    blt := by simpa using h.blt
    ownlt := fun b hb => by
      rcases hb with hb | ⟨p, q⟩
      · simpa using h.ownlt b hb
      · simp at q; omega
    glob := fun g cs hg => repA_mono hs hrd cs g 0 (h.glob g cs hg)
    slots := fun t => by rw [hget]; exact repLv_mono hrf hs hrd _ _ (h.slots t)
    boxes := fun t n hb' => by
      rw [mb] at hb'
      by_cases ht : t = s
      · subst ht
        rw [hb] at hb'; cases hb'
        refine ⟨new, e, setRow_heap w _ cs new e (0, 0) hc, hnsz, fun k hk => ?_⟩
        rw [mc, hnget]
        by_cases hin : j ≤ k ∧ k < j + vs.length
        · have hk2 : k - j < ls.length := by omega
          have hk3 : k - j < vs.length := by omega
          refine ⟨ls[k - j], vs[k - j], by simp [hin.1, hk2], by simp [hin, hk3], ?_, h1 _ (List.getElem_mem _)⟩
          exact repLv_mono hrf hs hrd _ _ ((repLs_get.1 hv).2 (k - j) _ _ (by simp [hk2]) (by simp [hk3]))
        · obtain ⟨l, v, r1, r2, r3, r4⟩ := r k hk
          refine ⟨l, v, ?_, by rw [if_neg hin]; exact r2, repLv_mono hrf hs hrd _ _ r3, r4⟩
          by_cases hjk : j ≤ k
          · have : ls[k - j]? = none := by rw [List.getElem?_eq_none]; omega
            simp [hjk, this, r1]
          · simp [hjk, r1]
      · obtain ⟨cs', e', p, q, r⟩ := h.boxes t n hb'
        refine ⟨cs', e', ?_, q, fun k hk => ?_⟩
        · rw [setRow_other]
          · exact p
          · intro e0
            exact ht (h.disj t s _ (h.blkB hb') (e0 ▸ h.blkB hb))
        · obtain ⟨l, v, r1, r2, r3, r4⟩ := r k hk
          exact ⟨l, v, by rw [mc, if_neg fun e => ht e.1]; exact r1, r2, repLv_mono hrf hs hrd _ _ r3, r4⟩
    arrs := fun t g e' es xs ha => by
      rw [ma] at ha
      obtain ⟨h0, us, p, q⟩ := h.arrs t g e' es xs ha
      refine ⟨h0, us, ownsRow_block p fun b hv' => setRow_other w _ b _ fun e0 => ?_, repEs_mono hs hrd q⟩
      have h2 : blkOf σ.mem G t = some (G.bk s) := by rw [h.blkA ha, hv', e0]
      have := h.disj t s _ h2 (h.blkB hb)
      subst this
      exact h.both t m g e' es xs hb ha
    disj := fun t t' b hb hb' => by rw [hbk] at hb hb'; exact h.disj t t' b hb hb'
    both := fun t n g e' es xs hb ha => by rw [mb] at hb; rw [ma] at ha; exact h.both t n g e' es xs hb ha
    ownb := fun t b hb => by rw [hbk] at hb; exact .inl (h.ownb t b hb)
    sbox := fun t n hb hff => by rw [mb] at hb; rw [mf] at hff; exact h.sbox t n hb hff
    sarr := fun t g e' es xs b ha hv' => by rw [ma] at ha; rw [mf]; exact h.sarr t g e' es xs b ha hv' }

/-- A new array, which lies there already. -/
theorem RepD.newArr (h : RepD Γ X N ds σ a w G St own) {d : Nat} (hf : fresh σ d = true) {e : TypeId} {es : Nat} {xs : List V} {v : Value} {vs : List Value} (h0 : 0 < es)
    (ho : w.ownsRow 0 e es v xs.length vs) (he : repEs St (rdW w) es xs vs) (hb : ∀ b, v.ownBlock = some b → own b ∧ (∀ t, blkOf σ.mem G t ≠ some b) ∧ ∀ o, ¬ St b o) :
    RepD Γ X N ds (σ.upd [(.a d, .arr 0 e es xs), (.f d, .none)]) a w ⟨G.bk, fun t => if t = d then v else G.av t⟩ St own := by
  obtain ⟨hfb, hfa⟩ := fresh_iff.1 hf
  have mb : ∀ t, (σ.upd [(.a d, .arr 0 e es xs), (.f d, .none)]).mem (.b t) = σ.mem (.b t) := fun t => by simp only [VS.upd, look, reduceCtorEq, if_false]
  have mc : ∀ t j, (σ.upd [(.a d, .arr 0 e es xs), (.f d, .none)]).mem (.c t j) = σ.mem (.c t j) := fun t j => by simp only [VS.upd, look, reduceCtorEq, if_false]
  have ma : ∀ t, (σ.upd [(.a d, .arr 0 e es xs), (.f d, .none)]).mem (.a t) = if t = d then .arr 0 e es xs else σ.mem (.a t) := fun t => by simp only [VS.upd, look, Key.a.injEq, reduceCtorEq, if_false]
  have mf : ∀ t, (σ.upd [(.a d, .arr 0 e es xs), (.f d, .none)]).mem (.f t) = if t = d then .none else σ.mem (.f t) := fun t => by simp only [VS.upd, look, Key.f.injEq, reduceCtorEq, if_false]
  generalize hσ : σ.upd [(.a d, .arr 0 e es xs), (.f d, .none)] = σ' at mb ma mf mc
  have hget : σ'.get = σ.get := by rw [← hσ]; rfl
  have hrf : Refs σ.mem G σ'.mem ⟨G.bk, fun t => if t = d then v else G.av t⟩ := {
    b := fun t n hb => ⟨by rw [mb]; exact hb, rfl⟩
    a := fun t g e' es' xs' ha => by
      have : t ≠ d := fun e0 => by rw [e0, hfa] at ha; cases ha
      exact ⟨g, e', es', xs', by rw [ma, if_neg this]; exact ha, .inr ⟨rfl, rfl, rfl, by simp [this]⟩⟩ }
  have hs : ∀ b o, St b o → St b o := fun _ _ h => h
  have hrd : ∀ b o, St b o → rdW w b o = rdW w b o := fun _ _ _ => rfl
  have blk : ∀ t b, blkOf σ'.mem ⟨G.bk, fun t => if t = d then v else G.av t⟩ t = some b → (t = d ∧ v.ownBlock = some b) ∨ (t ≠ d ∧ blkOf σ.mem G t = some b) := fun t b hb => by
    unfold blkOf at hb
    rw [mb, ma] at hb
    by_cases ht : t = d
    · subst ht; rw [hfb] at hb; simp at hb; exact .inl ⟨rfl, hb⟩
    · refine .inr ⟨ht, ?_⟩
      unfold blkOf; simpa only [if_neg ht] using hb
  exact { h with
    slots := fun t => by rw [hget]; exact repLv_mono hrf hs hrd _ _ (h.slots t)
    boxes := fun t n hb => by
      rw [mb] at hb
      obtain ⟨cs, e', p, q, r⟩ := h.boxes t n hb
      refine ⟨cs, e', p, q, fun j hj => ?_⟩
      obtain ⟨l, u, r1, r2, r3, r4⟩ := r j hj
      exact ⟨l, u, by rw [mc]; exact r1, r2, repLv_mono hrf hs hrd _ _ r3, r4⟩
    arrs := fun t g e' es' xs' ha => by
      rw [ma] at ha
      by_cases ht : t = d
      · subst ht
        simp at ha
        obtain ⟨rfl, rfl, rfl, rfl⟩ := ha
        exact ⟨h0, vs, by simpa using ho, he⟩
      · rw [if_neg ht] at ha
        simpa only [if_neg ht] using h.arrs t g e' es' xs' ha
    disj := fun t t' b hb1 hb2 => by
      rcases blk t b hb1 with ⟨p, q⟩ | ⟨p, q⟩ <;> rcases blk t' b hb2 with ⟨p', q'⟩ | ⟨p', q'⟩
      · rw [p, p']
      · exact ((hb b q).2.1 t' q').elim
      · exact ((hb b q').2.1 t q).elim
      · exact h.disj t t' b q q'
    both := fun t n g e' es' xs' hb1 ha => by
      rw [ma] at ha; rw [mb] at hb1
      by_cases ht : t = d
      · subst ht; rw [hfb] at hb1; cases hb1
      · rw [if_neg ht] at ha; exact h.both t n g e' es' xs' hb1 ha
    ownb := fun t b hb1 => by
      rcases blk t b hb1 with ⟨p, q⟩ | ⟨p, q⟩
      · exact (hb b q).1
      · exact h.ownb t b q
    sbox := fun t n hb1 hff => by
      rw [mb] at hb1; rw [mf] at hff
      have ht : t ≠ d := fun e0 => by rw [e0, hfb] at hb1; cases hb1
      rw [if_neg ht] at hff
      exact h.sbox t n hb1 hff
    sarr := fun t g e' es' xs' b ha hv => by
      rw [ma] at ha
      by_cases ht : t = d
      · subst ht
        simp only [if_true] at hv
        exact ⟨fun _ => (hb b hv).2.2, fun o _ => (hb b hv).2.2 o⟩
      · rw [if_neg ht] at ha
        simp only [if_neg ht] at hv
        rw [mf, if_neg ht]
        exact h.sarr t g e' es' xs' b ha hv }

/-- An array is written, or grows. -/
theorem RepD.updArr (h : RepD Γ X N ds σ a w G St own) {t0 g g2 es : Nat} {e : TypeId} {xs xs2 : List V} {v2 : Value} {vs2 : List Value} (ha0 : σ.mem (.a t0) = .arr g e es xs)
    (hg : w.grownBy w' (G.av t0).ownBlock) (ho : w'.ownsRow 0 e es v2 xs2.length vs2) (he : repEs St (rdW w) es xs2 vs2)
    (hst : ∀ b o, St b o → rdW w' b o = rdW w b o) (hl : xs.length ≤ xs2.length) (hgg : g < g2 ∨ (g2 = g ∧ xs.length = xs2.length ∧ v2 = G.av t0))
    (hb : ∀ b, v2.ownBlock = some b → (G.av t0).ownBlock = some b ∨ (w.heap.size ≤ b ∧ b < w'.heap.size)) :
    RepD Γ X N ds (σ.upd [(.a t0, .arr g2 e es xs2)]) a w' ⟨G.bk, fun t => if t = t0 then v2 else G.av t⟩ St (newOwn own w w') := by
  have h0 := (h.arrs t0 g e es xs ha0).1
  have hown : ∀ b, (G.av t0).ownBlock = some b → own b := fun b hb => h.ownb t0 b (by rw [h.blkA ha0]; exact hb)
  have hstp : Stp own w w' := ⟨hg.os, hg.tape, hg.output, hg.size, fun k hk hn => hg.block k hk fun e => hn (hown k e.symm)⟩
  have hoth : ∀ t b, t ≠ t0 → blkOf σ.mem G t = some b → w'.heap[b]? = w.heap[b]? := fun t b ht hbk => hg.block b (h.blk_lt hbk) fun e0 => ht (h.disj t t0 b hbk (by rw [h.blkA ha0]; exact e0.symm))
  have mb : ∀ t, (σ.upd [(.a t0, .arr g2 e es xs2)]).mem (.b t) = σ.mem (.b t) := fun t => by simp only [VS.upd, look, reduceCtorEq, if_false]
  have mc : ∀ t j, (σ.upd [(.a t0, .arr g2 e es xs2)]).mem (.c t j) = σ.mem (.c t j) := fun t j => by simp only [VS.upd, look, reduceCtorEq, if_false]
  have ma : ∀ t, (σ.upd [(.a t0, .arr g2 e es xs2)]).mem (.a t) = if t = t0 then .arr g2 e es xs2 else σ.mem (.a t) := fun t => by simp only [VS.upd, look, Key.a.injEq]
  have mf : ∀ t, (σ.upd [(.a t0, .arr g2 e es xs2)]).mem (.f t) = σ.mem (.f t) := fun t => by simp only [VS.upd, look, reduceCtorEq, if_false]
  generalize hσ : σ.upd [(.a t0, .arr g2 e es xs2)] = σ' at mb ma mf mc
  have hget : σ'.get = σ.get := by rw [← hσ]; rfl
  have hrf : Refs σ.mem G σ'.mem ⟨G.bk, fun t => if t = t0 then v2 else G.av t⟩ := {
    b := fun t n hb => ⟨by rw [mb]; exact hb, rfl⟩
    a := fun t g' e' es' xs' ha => by
      by_cases ht : t = t0
      · subst ht
        rw [ha0] at ha; cases ha
        refine ⟨g2, e, es, xs2, by rw [ma, if_pos rfl], ?_⟩
        rcases hgg with hgg | ⟨q1, q2, q3⟩
        · exact .inl hgg
        · exact .inr ⟨q1.symm, rfl, q2, by simp [q3]⟩
      · exact ⟨g', e', es', xs', by rw [ma, if_neg ht]; exact ha, .inr ⟨rfl, rfl, rfl, by simp [ht]⟩⟩ }
  have hs : ∀ b o, St b o → St b o := fun _ _ h => h
  have hnb : ∀ t n, σ.mem (.b t) = .box n → t ≠ t0 := fun t n hb e0 => h.both t0 n g e es xs (e0 ▸ hb) ha0
  have blk : ∀ t b, blkOf σ'.mem ⟨G.bk, fun t => if t = t0 then v2 else G.av t⟩ t = some b → (t = t0 ∧ v2.ownBlock = some b) ∨ (t ≠ t0 ∧ blkOf σ.mem G t = some b) := fun t b hb => by
    unfold blkOf at hb
    rw [mb, ma] at hb
    by_cases ht : t = t0
    · subst ht
      split at hb
      · rename_i n h1; exact (hnb t n h1 rfl).elim
      · simp at hb; exact .inl ⟨rfl, hb⟩
    · refine .inr ⟨ht, ?_⟩
      unfold blkOf; simpa only [if_neg ht] using hb
  exact {
    size := h.size, defs := h.defs
    inv := X.step own w w' h.inv hstp
    st0 := h.st0, stn := h.stn
    stlt := fun b o hb => Nat.lt_of_lt_of_le (h.stlt b o hb) hg.size
    blt := Nat.le_trans h.blt hg.size
    ownlt := fun b hb => by
      rcases hb with hb | ⟨p, q⟩
      · exact ⟨Nat.lt_of_lt_of_le (h.ownlt b hb).1 hg.size, (h.ownlt b hb).2⟩
      · exact ⟨q, Nat.le_trans h.blt p⟩
    glob := fun g cs hg => repA_mono hs hst cs g 0 (h.glob g cs hg)
    slots := fun t => by rw [hget]; exact repLv_mono hrf hs hst _ _ (h.slots t)
    boxes := fun t n hb => by
      rw [mb] at hb
      obtain ⟨cs, e', p, q, r⟩ := h.boxes t n hb
      refine ⟨cs, e', by rw [hoth t _ (hnb t n hb) (h.blkB hb)]; exact p, q, fun j hj => ?_⟩
      obtain ⟨l, u, r1, r2, r3, r4⟩ := r j hj
      exact ⟨l, u, by rw [mc]; exact r1, r2, repLv_mono hrf hs hst _ _ r3, r4⟩
    arrs := fun t g' e' es' xs' ha => by
      rw [ma] at ha
      by_cases ht : t = t0
      · subst ht
        simp at ha
        obtain ⟨rfl, rfl, rfl, rfl⟩ := ha
        exact ⟨h0, vs2, by simpa using ho, repEs_mono hs hst he⟩
      · rw [if_neg ht] at ha
        obtain ⟨h0', us, p, q⟩ := h.arrs t g' e' es' xs' ha
        refine ⟨h0', us, ?_, repEs_mono hs hst q⟩
        simp only [if_neg ht]
        exact ownsRow_block p fun b hv => hoth t b ht (by rw [h.blkA ha]; exact hv)
    disj := fun t t' b hb1 hb2 => by
      have key : ∀ t, t ≠ t0 → blkOf σ.mem G t = some b → v2.ownBlock = some b → False := fun t ht h1 h2 => by
        rcases hb b h2 with h3 | h3
        · exact ht (h.disj t t0 b h1 (by rw [h.blkA ha0]; exact h3))
        · have := h.blk_lt h1; omega
      rcases blk t b hb1 with ⟨p, q⟩ | ⟨p, q⟩ <;> rcases blk t' b hb2 with ⟨p', q'⟩ | ⟨p', q'⟩
      · rw [p, p']
      · exact (key t' p' q' q).elim
      · exact (key t p q q').elim
      · exact h.disj t t' b q q'
    both := fun t n g' e' es' xs' hb1 ha => by
      rw [ma] at ha; rw [mb] at hb1
      rw [if_neg (hnb t n hb1)] at ha
      exact h.both t n g' e' es' xs' hb1 ha
    ownb := fun t b hb1 => by
      rcases blk t b hb1 with ⟨p, q⟩ | ⟨p, q⟩
      · rcases hb b q with h3 | h3
        · exact .inl (hown b h3)
        · exact .inr h3
      · exact .inl (h.ownb t b q)
    sbox := fun t n hb1 hff => by
      rw [mb] at hb1; rw [mf] at hff
      exact h.sbox t n hb1 hff
    sarr := fun t g' e' es' xs' b ha hv => by
      rw [ma] at ha
      rw [mf]
      by_cases ht : t = t0
      · subst ht
        simp at ha
        obtain ⟨rfl, rfl, rfl, rfl⟩ := ha
        simp only [if_true] at hv
        rcases hb b hv with h3 | h3
        · obtain ⟨k1, k2⟩ := h.sarr t g e es xs b ha0 h3
          exact ⟨k1, fun o ho => k2 o (Nat.le_trans (Nat.mul_le_mul_right _ hl) ho)⟩
        · exact ⟨fun _ o ho => by have := h.stlt b o ho; omega, fun o _ ho => by have := h.stlt b o ho; omega⟩
      · rw [if_neg ht] at ha
        simp only [if_neg ht] at hv
        exact h.sarr t g' e' es' xs' b ha hv }

/-! What is handed on. -/
def stF (σ : VS) (G : GG) (St : Nat → Nat → Prop) (fz : List Nat) (b o : Nat) : Prop :=
  St b o ∨ ∃ t, t ∈ fz ∧ ((∃ n, σ.mem (.b t) = .box n ∧ b = G.bk t) ∨ ∃ g e es xs, σ.mem (.a t) = .arr g e es xs ∧ (G.av t).ownBlock = some b ∧ o < xs.length * es)

theorem look_frzs_f {fz : List Nat} {t : Nat} {m : M} : look (.f t) m (frzs fz) = if t ∈ fz then .frz else m := by
  induction fz with
  | nil => simp [frzs, look]
  | cons x xs ih =>
    simp only [frzs, List.map_cons, look, Key.f.injEq, List.mem_cons] at ih ⊢
    by_cases h : t = x
    · simp [h]
    · rw [if_neg h, ih]; simp [h]
theorem look_frzs {fz : List Nat} {k : Key} {m : M} (hk : ∀ t, k ≠ .f t) : look k m (frzs fz) = m := by
  induction fz with
  | nil => rfl
  | cons x xs ih => simp only [frzs, List.map_cons, look] at ih ⊢; rw [if_neg (hk x)]; exact ih

theorem RepD.frz (h : RepD Γ X N ds σ a w G St own) (fz : List Nat) : RepD Γ X N ds (σ.upd (frzs fz)) a w G (stF σ G St fz) own := by
  have mb : ∀ t, (σ.upd (frzs fz)).mem (.b t) = σ.mem (.b t) := fun t => look_frzs (by simp)
  have mc : ∀ t j, (σ.upd (frzs fz)).mem (.c t j) = σ.mem (.c t j) := fun t j => look_frzs (by simp)
  have ma : ∀ t, (σ.upd (frzs fz)).mem (.a t) = σ.mem (.a t) := fun t => look_frzs (by simp)
  have mf : ∀ t, (σ.upd (frzs fz)).mem (.f t) = if t ∈ fz then .frz else σ.mem (.f t) := fun t => look_frzs_f
  generalize hσ : σ.upd (frzs fz) = σ' at mb ma mf mc
  have hget : σ'.get = σ.get := by rw [← hσ]; rfl
  have hrf : Refs σ.mem G σ'.mem G := {
    b := fun t n hb => ⟨by rw [mb]; exact hb, rfl⟩
    a := fun t g e es xs ha => ⟨g, e, es, xs, by rw [ma]; exact ha, .inr ⟨rfl, rfl, rfl, rfl⟩⟩ }
  have hs : ∀ b o, St b o → stF σ G St fz b o := fun _ _ h => .inl h
  have hrd : ∀ b o, St b o → rdW w b o = rdW w b o := fun _ _ _ => rfl
  have hbk : ∀ t, blkOf σ'.mem G t = blkOf σ.mem G t := fun t => by unfold blkOf; rw [mb, ma]
  have hF : ∀ b o, stF σ G St fz b o → St b o ∨ ∃ t, t ∈ fz ∧ blkOf σ.mem G t = some b ∧ ∀ g e es xs, σ.mem (.a t) = .arr g e es xs → o < xs.length * es := fun b o hb => by
    rcases hb with hb | ⟨t, ht, ⟨n, p, q⟩ | ⟨g, e, es, xs, p, q, r⟩⟩
    · exact .inl hb
    · exact .inr ⟨t, ht, by rw [h.blkB p, q], fun g e es xs p' => (h.both t n g e es xs p p').elim⟩
    · exact .inr ⟨t, ht, by rw [h.blkA p, q], fun g' e' es' xs' p' => by rw [p] at p'; cases p'; exact r⟩
  exact {
    size := h.size, defs := h.defs, inv := h.inv
    st0 := fun b o hb => .inl (h.st0 b o hb)
    stn := fun b o hb => by
      rcases hF b o hb with hb | ⟨t, _, q, _⟩
      · exact h.stn b o hb
      · exact .inr (h.ownlt b (h.ownb t b q)).2
    stlt := fun b o hb => by
      rcases hF b o hb with hb | ⟨t, _, q, _⟩
      · exact h.stlt b o hb
      · exact h.blk_lt q
    blt := h.blt, ownlt := h.ownlt
    glob := fun g cs hg => repA_mono hs hrd cs g 0 (h.glob g cs hg)
    slots := fun t => by rw [hget]; exact repLv_mono hrf hs hrd _ _ (h.slots t)
    boxes := fun t n hb => by
      rw [mb] at hb
      obtain ⟨cs, e', p, q, r⟩ := h.boxes t n hb
      refine ⟨cs, e', p, q, fun j hj => ?_⟩
      obtain ⟨l, u, r1, r2, r3, r4⟩ := r j hj
      exact ⟨l, u, by rw [mc]; exact r1, r2, repLv_mono hrf hs hrd _ _ r3, r4⟩
    arrs := fun t g e es xs ha => by
      rw [ma] at ha
      obtain ⟨h0, us, p, q⟩ := h.arrs t g e es xs ha
      exact ⟨h0, us, p, repEs_mono hs hrd q⟩
    disj := fun t t' b hb hb' => by rw [hbk] at hb hb'; exact h.disj t t' b hb hb'
    both := fun t n g e es xs hb ha => by rw [mb] at hb; rw [ma] at ha; exact h.both t n g e es xs hb ha
    ownb := fun t b hb => by rw [hbk] at hb; exact h.ownb t b hb
    sbox := fun t n hb hff o ho => by
      rw [mb] at hb; rw [mf] at hff
      have ht : t ∉ fz := fun hm => by simp [hm, isNone] at hff
      rw [if_neg ht] at hff
      rcases hF _ o ho with ho | ⟨t', hm, q, _⟩
      · exact h.sbox t n hb hff o ho
      · exact ht (h.disj t t' _ (h.blkB hb) q ▸ hm)
    sarr := fun t g e es xs b ha hv => by
      rw [ma] at ha
      refine ⟨fun hff o ho => ?_, fun o hlo ho => ?_⟩
      · rw [mf] at hff
        have ht : t ∉ fz := fun hm => by simp [hm, isNone] at hff
        rw [if_neg ht] at hff
        rcases hF _ o ho with ho | ⟨t', hm, q, _⟩
        · exact (h.sarr t g e es xs b ha hv).1 hff o ho
        · exact ht (h.disj t t' _ (by rw [h.blkA ha]; exact hv) q ▸ hm)
      · rcases hF _ o ho with ho | ⟨t', hm, q, r⟩
        · exact (h.sarr t g e es xs b ha hv).2 o hlo ho
        · have := h.disj t t' _ (by rw [h.blkA ha]; exact hv) q
          subst this
          have := r g e es xs ha
          omega }
end Go.Vm
