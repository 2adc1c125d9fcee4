import Derived.Test.YtmebdgliiickfaaVmN
set_option linter.all false
/- Each operation does in the model what the value machine says: append, len, min, max, slices, function values. -/
namespace Go.Vm
variable {Γ : Nat → Option (List V)} {X : Ctx} {N : Nat} {ds : List Deferred} {σ : VS} {a : Act} {w w' : World} {G G' : GG} {St St' : Nat → Nat → Prop} {own : Nat → Prop} {P : Program} {K : Eff → Prop}

/-- append, and where what it hands back lies: in a new block, nothing else having turned; or in the old one. -/
theorem run_append_where (t ty e : TypeId) (i : TypeInfo) (z : Value) (ht : P.underlying t = some (.slice e)) (hi : P.info? e = some i) (hz : i.zero = some z) (hzs : z.cells.size = i.size)
    (v : Value) (n : Nat) (xs : List Value) (hown : w.ownsRow 0 e i.size v n xs) (b : Addr) (m c : Nat) (news : List Value) (hl : news.length = m * i.size) (hnews : ∀ j u, news[j]? = some u → w.cell? (b.add j) = some u) (h1 : ∀ u ∈ news, u.oneCell' = true)
    (h63 : n + m ≤ maxLen) (hbytes : (n + m) * i.bytes ≤ 140737488355328) :
    ∃ v' w', (Builtin.append_ #[t, t] ty #[v, .slice (some b) m c]).run P w = .ok v' w' ∧ w'.ownsRow 0 e i.size v' (n + m) (xs ++ news) ∧
      ((w.grownBy w' none ∧ ∀ k, v'.ownBlock = some k → w.heap.size ≤ k ∧ k < w'.heap.size) ∨ (w.grownBy w' v.ownBlock ∧ v'.ownBlock = v.ownBlock)) := by
  have hsmall : n + m ≤ 9223372036854775807 := by simp only [maxLen] at h63; omega
  have hlen : (xs ++ news).length = (n + m) * i.size := by rw [List.length_append, hown.1, hl, Nat.add_mul]
  have anew : ∀ old : Nat, (w.drew.alloc (.cells (xs.toArray ++ news.toArray ++ Builtin.zeroCells z.cells (grownCap w (n + m) old e - (n + m))) e)).ownsRow 0 e i.size (.slice (some ⟨w.heap.size, 0, none⟩) (n + m) (grownCap w (n + m) old e)) (n + m) (xs ++ news) := by
    intro old
    have hge := grownCap_ge w (n + m) old e
    refine ⟨hlen, .inr ⟨w.heap.size, _, _, rfl, Nat.zero_le _, heap_alloc_new w.drew _, hge, grownCap_le_maxLen w (n + m) old e h63, ?_, ?_⟩⟩
    · have : (xs.toArray ++ news.toArray).size = (n + m) * i.size := by simpa using hlen
      rw [Array.size_append, this, size_zeroCells, hzs, ← Nat.add_mul, Nat.add_sub_cancel' hge]
    · rw [Array.toList_append]
      have : (xs.toArray ++ news.toArray).toList = xs ++ news := by simp
      rw [this, List.take_left' hlen]
  have isnew : ∀ (o : Obj), w.grownBy (w.drew.alloc o) none ∧ ∀ (l c k : Nat), Value.ownBlock (.slice (some ⟨w.heap.size, 0, none⟩) l c) = some k → w.heap.size ≤ k ∧ k < (w.drew.alloc o).heap.size := fun o =>
    ⟨⟨rfl, rfl, rfl, by simp, fun k hk _ => RowKit.Below.heap_alloc w.drew o k hk⟩, fun l c k hk => by simp only [Value.ownBlock, Option.some.injEq] at hk; subst hk; simp⟩
  rcases hown.2 with ⟨rfl, rfl⟩ | ⟨g, cap, cur, rfl, _, hg, hnc, hcm, hcs, htake⟩
  · obtain rfl : xs = [] := List.eq_nil_of_length_eq_zero (by simpa using hown.1)
    by_cases hm : m = 0
    · subst hm
      obtain rfl : news = [] := List.eq_nil_of_length_eq_zero (by simpa using hl)
      refine ⟨.slice none 0 0, w, ?_, World.ownsRow_nil w 0 e i.size, .inr ⟨⟨rfl, rfl, rfl, Nat.le_refl _, fun _ _ _ => rfl⟩, rfl⟩⟩
      simp [Builtin.append_, run_underlying ht, sizeOf, typeInfo, hi, Builtin.lenOf, Builtin.firstCells, loadCells, loadCellsFrom]
    · have hr := run_append_nil (P := P) w t ty e i z ht hi hz b m c news hl hnews (by omega) (by omega) (by have hb := hbytes; simp only [Nat.zero_add] at hb; omega)
      have ha := anew 0
      simp only [Nat.zero_add, List.nil_append, Array.empty_append] at ha ⊢
      exact ⟨_, _, hr, ha, .inl ⟨(isnew _).1, (isnew _).2 _ _⟩⟩
  · by_cases hroom : n + m ≤ cap
    · have hfit : n * i.size + news.length ≤ cur.size := by rw [hl, hcs, ← Nat.add_mul]; exact Nat.mul_le_mul_right _ hroom
      have hr := run_append_room (P := P) w t ty e i ht hi g n cap cur hg b m c news hl hnews h1 hroom hfit
      refine ⟨_, _, hr, ⟨hlen, .inr ⟨g, cap, _, rfl, Nat.zero_le _, setRow_heap w g cur _ e _ hg, hroom, hcm, ?_, ?_⟩⟩, .inr ⟨⟨rfl, rfl, rfl, by simp, fun k _ hk => setRow_other w g k _ fun e0 => hk (by simp [Value.ownBlock, e0])⟩, rfl⟩⟩
      · simp only [List.size_toArray, List.length_append, List.length_take, List.length_drop, Array.length_toList]; omega
      · rw [htake, ← hlen]; exact List.take_left
    · have hr := run_append_grow (P := P) w t ty e i z ht hi hz ⟨g, 0, none⟩ n cap xs hown.1 (hown.cells (g := g) rfl) b m c news hl hnews (by omega) (by omega) (growslice_fits (by omega) hbytes)
      exact ⟨_, _, hr, anew cap, .inl ⟨(isnew _).1, (isnew _).2 _ _⟩⟩

theorem repEs_append {rd : Nat → Nat → Option Value} {es : Nat} {xs ys : List V} {us vs : List Value} (h : repEs St rd es xs us) (k : repEs St rd es ys vs) : repEs St rd es (xs ++ ys) (us ++ vs) := by
  obtain ⟨h1, h2⟩ := h
  obtain ⟨k1, k2⟩ := k
  refine ⟨by simp [h1, k1, Nat.add_mul], fun i x hi => ?_⟩
  by_cases hx : i < xs.length
  · rw [List.getElem?_append_left hx] at hi
    have hle : i * es + es ≤ us.length := by rw [h1, ← Nat.succ_mul]; exact Nat.mul_le_mul_right _ hx
    rw [List.drop_append_of_le_length (by omega), List.take_append_of_le_length (by simp; omega)]
    exact h2 i x hi
  · rw [List.getElem?_append_right (by omega)] at hi
    have e : i * es = us.length + (i - xs.length) * es := by rw [h1, ← Nat.add_mul]; congr 1; omega
    rw [e, ← List.drop_drop, List.drop_left]
    exact k2 _ x hi

theorem RepD.app (h : RepD Γ X N ds σ a w G St own) {d : Nat} {t ty : TypeId} {s x : L} {u v : Value} (hs : repLv σ.mem G St (rdW w) s u) (hx : repLv σ.mem G St (rdW w) x v) (hk : vappend P σ d t s x K) :
    Makes P Γ X N ds σ a w (Builtin.append_ #[t, t] ty #[u, v]) K := by
  unfold vappend at hk
  obtain ⟨e, he, hk1⟩ := wantO_iff.1 hk
  obtain ⟨es, hes, hk2⟩ := wantO_iff.1 hk1
  obtain ⟨by', hby, hk3⟩ := wantO_iff.1 hk2
  obtain ⟨z, hz, hk4⟩ := wantO_iff.1 hk3
  obtain ⟨⟨ys, ks⟩, hc, hk5⟩ := wantO_iff.1 hk4
  obtain ⟨⟨hzl, h0⟩, hk6⟩ := need_iff.1 hk5
  clear hk hk1 hk2 hk3 hk4 hk5
  obtain ⟨ie, hie, hsz⟩ := szq_some hes
  subst hsz
  obtain ⟨i, zv, g1, g2, g3⟩ := zeq_some hz
  rw [hie] at g1; cases g1
  obtain ⟨ie2, hie2, hb⟩ := byq_some hby
  rw [hie] at hie2; cases hie2
  obtain ⟨r1, r2, r3⟩ := scals_rep (mem := σ.mem) (G := G) (St := St) (rd := rdW w) g3
  have hzs : zv.cells.size = ie.size := by have := repLs_length r1; simp at this; omega
  have ht := elq_some he
  -- what an append to 'n' elements needs
  have bounds : ∀ n m : Nat, (n + m) * (by' + 1) ≤ maxBytes → n + m ≤ maxLen ∧ (n + m) * ie.bytes ≤ 140737488355328 := fun n m hnm => by
    rw [hb]
    have p1 : n + m ≤ maxBytes := Nat.le_trans (Nat.le_mul_of_pos_right _ (by omega)) hnm
    have p2 : (n + m) * by' ≤ (n + m) * (by' + 1) := Nat.mul_le_mul_left _ (by omega)
    unfold maxBytes at p1 hnm; unfold maxLen; omega
  -- the append itself
  have app : ∀ (u : Value) (xs : List V) (vs : List Value), w.ownsRow 0 e ie.size u xs.length vs → repEs St (rdW w) ie.size xs vs → (∀ y ∈ ys, y.cells.length = ie.size) → (xs.length + ys.length) * (by' + 1) ≤ maxBytes →
      ∃ v' w' vs2, (Builtin.append_ #[t, t] ty #[u, v]).run P w = .ok v' w' ∧ w'.ownsRow 0 e ie.size v' (xs ++ ys).length (vs ++ vs2) ∧ repEs St (rdW w) ie.size (xs ++ ys) (vs ++ vs2) ∧
        ((w.grownBy w' none ∧ ∀ k, v'.ownBlock = some k → w.heap.size ≤ k ∧ k < w'.heap.size) ∨ (w.grownBy w' u.ownBlock ∧ v'.ownBlock = u.ownBlock)) := by
    intro u xs vs ho hE hye hbd
    obtain ⟨b1, b2⟩ := bounds _ _ hbd
    rcases h.contVals hx hc hye with ⟨rfl, rfl⟩ | ⟨b, o, cap, news, rfl, n1, n2, n3, n4⟩
    · refine ⟨u, w, [], run_append_owned_none w 0 t ty e ie ie.size ht hie u _ _ ho, by simpa using ho, by simpa using hE, .inr ⟨⟨rfl, rfl, rfl, Nat.le_refl _, fun _ _ _ => rfl⟩, rfl⟩⟩
    · obtain ⟨v', w', hr, ho', hw⟩ := run_append_where (P := P) (w := w) t ty e ie zv ht hie g2 hzs u xs.length vs ho ⟨b, o, none⟩ ys.length cap news n1 (fun j z hj => by rw [add_addr]; exact n2 j z hj) n4 b1 b2
      exact ⟨v', w', news, hr, by rw [List.length_append]; exact ho', repEs_append hE n3, hw⟩
  -- a new array
  have fin : ∀ (u v' : Value) (w' : World) (vs2 : List Value), (Builtin.append_ #[t, t] ty #[u, v]).run P w = .ok v' w' → w'.ownsRow 0 e ie.size v' ys.length vs2 → repEs St (rdW w) ie.size ys vs2 → w.grownBy w' none → (∀ k, v'.ownBlock = some k → w.heap.size ≤ k ∧ k < w'.heap.size) → fresh σ d = true → K ⟨.arr d 0, .b d :: .a d :: ks, [(.a d, .arr 0 e ie.size ys), (.f d, .none)]⟩ →
      Makes P Γ X N ds σ a w (Builtin.append_ #[t, t] ty #[u, v]) K := by
    intro u v' w' vs2 hr ho hE hw hnew hf hK
    have h' := h.ext (w' := w') ⟨hw.os, hw.tape, hw.output, hw.size, fun k hk _ => hw.block k hk (by simp)⟩
    have hrd : ∀ b o, St b o → rdW w' b o = rdW w b o := fun b o hb => rdW_of_block (hw.block b (h.stlt b o hb) (by simp))
    have hn := h'.newArr (d := d) hf h0 ho (repEs_mono (fun _ _ h => h) hrd hE) (fun b hb => by
      obtain ⟨p1, p2⟩ := hnew b hb
      exact ⟨.inr ⟨p1, p2⟩, fun t ht => by have := h.blk_lt ht; omega, fun o ho => by have := h.stlt _ o ho; omega⟩)
    refine ⟨_, v', w', hK, hr, _, _, _, hn, ?_⟩
    simp only [repLv]
    refine ⟨0, e, ie.size, ys, by simp [VS.upd, look], Nat.le_refl _, ?_, fun _ => by simp⟩
    rcases ho.2 with ⟨p1, _⟩ | ⟨blk, cap, cur, p1, _⟩ <;> rw [p1] <;> rfl
  split at hk6
  · rename_i t0 g
    obtain ⟨⟨⟨e', es'⟩, xs⟩, hcu, hk⟩ := wantO_iff.1 hk6
    obtain ⟨⟨q1, q2, q3, q4⟩, hK⟩ := need_iff.1 hk
    have hm := curA_some hcu
    simp only at q1 q2 hm q4
    subst q1; subst q2
    have hv := h.arrVal hm hs
    obtain ⟨_, vs, ho, hE⟩ := h.arrs t0 g _ _ _ hm
    obtain ⟨v', w', vs2, hr, ho', hE', hw⟩ := app (G.av t0) xs vs ho hE q3 q4
    have hrow : w.grownBy w' (G.av t0).ownBlock := by
      rcases hw with ⟨hw, _⟩ | ⟨hw, _⟩
      · exact ⟨hw.os, hw.tape, hw.output, hw.size, fun k hk _ => hw.block k hk (by simp)⟩
      · exact hw
    have hst : ∀ b o, St b o → rdW w' b o = rdW w b o := fun b o hb => by
      rcases hw with ⟨hw, _⟩ | ⟨hw, hbl⟩
      · exact rdW_of_block (hw.block b (h.stlt b o hb) (by simp))
      · by_cases hbb : (G.av t0).ownBlock = some b
        · have hlo := (h.sarr t0 g _ _ _ b hm hbb).2 o
          have hlt : o < xs.length * ie.size := Classical.byContradiction fun hn => hlo (by omega) hb
          rcases ho.2 with ⟨p1, _⟩ | ⟨blk, cap, cur, p1, _, p2, _, _, _, p3⟩
          · rw [p1] at hbb; cases hbb
          rcases ho'.2 with ⟨p1', _⟩ | ⟨blk', cap', cur', p1', _, p2', _, _, _, p3'⟩
          · rw [p1', hbb] at hbl; cases hbl
          rw [p1] at hbb; rw [p1, p1'] at hbl
          simp only [Value.ownBlock, Option.some.injEq] at hbb hbl
          subst hbb; subst hbl
          have hlen1 := ho.1
          have l1 : cur[o]? = vs[o]? := take_get p3 (by omega)
          have l2 : cur'[o]? = (vs ++ vs2)[o]? := take_get p3' (by simp; omega)
          rw [List.getElem?_append_left (by omega)] at l2
          simp only [rdW, World.cell?, p2, p2', l1, l2]
        · exact rdW_of_block (hw.block b (h.stlt b o hb) fun e0 => hbb e0.symm)
    have hupd := h.updArr (g2 := g + 1) (xs2 := xs ++ ys) hm hrow ho' hE' hst (by simp) (.inl (by omega)) (fun b hb => by
      rcases hw with ⟨_, hw⟩ | ⟨_, hbl⟩
      · exact .inr (hw b hb)
      · exact .inl (hbl ▸ hb))
    refine ⟨_, v', w', hK, by rw [hv]; exact hr, _, _, _, hupd, ?_⟩
    simp only [repLv]
    refine ⟨g + 1, e', ie.size, xs ++ ys, by simp [VS.upd, look], Nat.le_refl _, ?_, fun _ => by simp⟩
    rcases ho'.2 with ⟨p1, _⟩ | ⟨blk, cap, cur, p1, _⟩ <;> rw [p1] <;> rfl
  · simp only [repLv] at hs
    subst hs
    obtain ⟨⟨hf, hye, hbd⟩, hK⟩ := need_iff.1 hk6
    obtain ⟨v', w', vs2, hr, ho, hE, hw⟩ := app (.slice none 0 0) [] [] (World.ownsRow_nil w 0 e ie.size) ⟨by simp, by simp⟩ hye (by simpa using hbd)
    simp only [List.nil_append] at ho hE
    refine fin _ v' w' vs2 hr ho hE ?_ (fun k hk => ?_) hf hK
    · rcases hw with ⟨hw, _⟩ | ⟨hw, _⟩ <;> exact hw
    · rcases hw with ⟨_, hw⟩ | ⟨_, hw⟩
      · exact hw k hk
      · rw [hw] at hk; cases hk
  · obtain ⟨c1, c2⟩ := hk6
    simp only [repLv] at hs
    by_cases hn : ys = []
    · have hK := c1 hn
      subst hn
      refine Gives.makes h ⟨_, u, hK, rfl, ?_, by simp only [repLv]; exact hs⟩
      rcases h.contVals hx hc (es := ie.size) (by simp) with ⟨rfl, _⟩ | ⟨b, o, cap, news, rfl, _⟩ <;> rcases hs with rfl | ⟨b', o', rfl⟩ <;>
        simp [Builtin.append_, run_underlying ht, sizeOf, typeInfo, hie, Builtin.lenOf, Builtin.firstCells, loadCells, loadCellsFrom, storeCells]
    · obtain ⟨⟨hf, hye, hbd⟩, hK⟩ := need_iff.1 (c2 hn)
      obtain ⟨b1, b2⟩ := bounds 0 ys.length (by simpa using hbd)
      rcases hs with rfl | ⟨b', o', rfl⟩
      · obtain ⟨v', w', vs2, hr, ho, hE, hw⟩ := app (.slice none 0 0) [] [] (World.ownsRow_nil w 0 e ie.size) ⟨by simp, by simp⟩ hye (by simpa using hbd)
        simp only [List.nil_append] at ho hE
        refine fin _ v' w' vs2 hr ho hE ?_ (fun k hk => ?_) hf hK
        · rcases hw with ⟨hw, _⟩ | ⟨hw, _⟩ <;> exact hw
        · rcases hw with ⟨_, hw⟩ | ⟨_, hw⟩
          · exact hw k hk
          · rw [hw] at hk; cases hk
      · rcases h.contVals hx hc hye with ⟨_, hy⟩ | ⟨b, o, cap, news, rfl, n1, n2, n3, n4⟩
        · exact (hn hy).elim
        have hlen : 0 < ys.length := List.length_pos_iff.2 hn
        have hr := run_append_grow (P := P) w t ty e ie zv ht hie g2 ⟨b', o', none⟩ 0 0 [] (by simp) (by simp) ⟨b, o, none⟩ ys.length cap news n1 (fun j z hj => by rw [add_addr]; exact n2 j z hj) (by omega) (by unfold maxLen at b1; omega) (growslice_fits (by omega) b2)
        simp only [Nat.zero_add, List.nil_append, Array.empty_append] at hr
        have hge := grownCap_ge w ys.length 0 e
        refine fin _ _ _ news hr ⟨n1, .inr ⟨w.heap.size, _, _, rfl, Nat.zero_le _, heap_alloc_new w.drew _, hge, grownCap_le_maxLen w ys.length 0 e (by omega), ?_, ?_⟩⟩ n3 ⟨rfl, rfl, rfl, by simp, fun k hk _ => RowKit.Below.heap_alloc w.drew _ k hk⟩ (fun k hk => by simp only [Value.ownBlock, Option.some.injEq] at hk; subst hk; simp) hf hK
        · rw [Array.size_append, size_zeroCells, hzs, List.size_toArray, n1, ← Nat.add_mul, Nat.add_sub_cancel' hge]
        · rw [Array.toList_append, List.toList_toArray, List.take_left' n1]
  · exact hk6.elim
end Go.Vm
