import Derived.Test.YtmebdgliiickfaaVmG
import Derived.Laws.Small
import Derived.Laws.NewBlocks
set_option linter.all false
/- Each operation does in the model what the value machine says: values, boxes. -/
namespace Go.Vm
variable {Γ : Nat → Option (List V)} {X : Ctx} {N : Nat} {ds : List Deferred} {σ : VS} {a : Act} {w w' : World} {G G' : GG} {St St' : Nat → Nat → Prop} {own : Nat → Prop} {P : Program} {K : Eff → Prop}

/-- The operation has yielded 'v', and the frame is as 'e' says. -/
def Done (P : Program) (Γ : Nat → Option (List V)) (X : Ctx) (N : Nat) (ds : List Deferred) (σ : VS) (a : Act) (w : World) (s : Sem Next) (e : Eff) : Prop :=
  ∃ v w1, (s.run P w = .ok (.value v) w1 ∨ (s.run P w = .ok .skip w1 ∧ v = undef)) ∧
    ∃ G' St' own', RepD Γ X N ds (σ.upd e.wr) a w1 G' St' own' ∧ repLv (σ.upd e.wr).mem G' St' (rdW w1) e.val v

theorem scal_rep {mem : Key → M} {rd : Nat → Nat → Option Value} {v : Value} {l : L} (h : scal v = some l) : repLv mem G St rd l v ∧ v.oneCell' = true ∧ l.isCell = true := by
  unfold scal at h
  split at h <;> first | (cases h; done) | skip
  all_goals
    simp only [Option.some.injEq] at h
    subst h
    simp [repLv, rep, repC, Value.cells, Value.isAgg, V.isAgg, Value.oneCell', L.isCell]
theorem scals_rep {mem : Key → M} {rd : Nat → Nat → Option Value} : ∀ {vs : List Value} {ls : List L}, vs.mapM scal = some ls → repLs mem G St rd ls vs ∧ (∀ v ∈ vs, v.oneCell' = true) ∧ ls.all L.isCell = true
  | [], ls, h => by simp at h; subst h; simp [repLs]
  | v :: vs, ls, h => by
    simp only [List.mapM_cons, Option.bind_eq_bind, Option.bind_eq_some_iff, Option.pure_def, Option.some.injEq] at h
    obtain ⟨l, h1, ls', h2, rfl⟩ := h
    obtain ⟨p1, p2, p3⟩ := scal_rep (mem := mem) (G := G) (St := St) (rd := rd) h1
    obtain ⟨q1, q2, q3⟩ := scals_rep (mem := mem) (rd := rd) h2
    refine ⟨by simp only [repLs]; exact ⟨v, vs, rfl, p1, q1⟩, fun u hu => ?_, by simp [p3, q3]⟩
    rcases List.mem_cons.1 hu with rfl | hu
    · exact p2
    · exact q2 u hu

theorem RepD.ev (h : RepD Γ X N ds σ a w G St own) (x : Operand) : repLv σ.mem G St (rdW w) (σ.ev Γ x) (a.eval x) := by
  cases x with
  | tmp t => exact h.slots t
  | const v =>
    simp only [VS.ev, Act.eval]
    cases hs : scal v with
    | none => simp [repLv]
    | some l => exact (scal_rep hs).1
  | global g =>
    simp only [VS.ev, Act.eval]
    split
    · rename_i cs hg
      simp only [repLv, rep, repC]
      exact ⟨⟨g, 0, rfl, h.glob g cs hg⟩, rfl⟩
    · simp [repLv]
  | func f =>
    simp only [VS.ev, Act.eval, repLv, rep, repC, repT]
    exact ⟨⟨#[], #[], rfl, rfl, rfl⟩, rfl⟩
theorem RepD.evs (h : RepD Γ X N ds σ a w G St own) : ∀ (l : List Operand), repLs σ.mem G St (rdW w) (l.map (σ.ev Γ)) (l.map a.eval)
  | [] => by simp [repLs]
  | x :: l => by simp only [List.map_cons, repLs]; exact ⟨_, _, rfl, h.ev x, h.evs l⟩

theorem RepD.nop (h : RepD Γ X N ds σ a w G St own) : RepD Γ X N ds (σ.upd []) a w G St own := h

theorem Done.pure (h : RepD Γ X N ds σ a w G St own) {s : Sem Next} {e : Eff} {v : Value} (hw : e.wr = []) (hr : s.run P w = .ok (.value v) w) (hv : repLv σ.mem G St (rdW w) e.val v) : Done P Γ X N ds σ a w s e := by
  refine ⟨v, w, .inl hr, G, St, own, ?_, ?_⟩
  · rw [hw]; exact h
  · rw [hw]; exact hv

/-! what the types say -/
theorem szq_some {t n : Nat} (h : szq P t = some n) : ∃ i, P.info? t = some i ∧ i.size = n := Option.map_eq_some_iff.1 h
theorem byq_some {t n : Nat} (h : byq P t = some n) : ∃ i, P.info? t = some i ∧ i.bytes = n := Option.map_eq_some_iff.1 h
theorem elq_some {t e : Nat} (h : elq P t = some e) : P.underlying t = some (.slice e) := by
  unfold elq at h
  split at h
  · rename_i e' he; cases h; exact he
  · cases h
theorem arq_some {t : Nat} {q : Nat × Nat} (h : arq P t = some q) : P.underlying t = some (.array q.1 q.2) := by
  unfold arq at h
  split at h
  · rename_i n e' he; cases h; exact he
  · cases h
theorem run_sizeOf {t n : Nat} (h : szq P t = some n) (w : World) : (sizeOf t).run P w = .ok n w := by
  obtain ⟨i, h1, h2⟩ := szq_some h
  simp [sizeOf, typeInfo, h1, h2]
theorem run_isAgg {t : Nat} {ag : Bool} (h : agq P t = some ag) (w : World) : (isAgg t).run P w = .ok ag w := by
  unfold agq at h
  split at h <;> cases h <;> rename_i hu <;> simp [isAgg, run_underlying hu]

theorem add_addr (b o n : Nat) : (⟨b, o, none⟩ : Addr).add n = ⟨b, o + n, none⟩ := by unfold Addr.add; split <;> simp_all

/-- Loading a variable out of cells. -/
theorem run_loadVar_cells {t n b o : Nat} {ag : Bool} (hn : szq P t = some n) (ha : agq P t = some ag) {vs : List Value} (hl : vs.length = n) (hc : ∀ i v, vs[i]? = some v → w.cell? ⟨b, o + i, none⟩ = some v) :
    ag = true → (loadVar t ⟨b, o, none⟩).run P w = .ok (.agg vs.toArray) w := by
  intro hag
  have h1 := run_loadCells_list (P := P) w ⟨b, o, none⟩ vs (fun j v hj => by rw [add_addr]; exact hc j v hj)
  rw [hl] at h1
  simp [loadVar, run_isAgg ha, hag, run_sizeOf hn, h1]
theorem run_loadVar_cell {t b o : Nat} (ha : agq P t = some false) {v : Value} (hc : w.cell? ⟨b, o, none⟩ = some v) : (loadVar t ⟨b, o, none⟩).run P w = .ok v w := by
  simp [loadVar, run_isAgg ha, hc]

theorem mkAgg_rep {mem : Key → M} {rd : Nat → Nat → Option Value} : ∀ {ls : List L} {vs : List Value}, repLs mem G St rd ls vs → (∀ v ∈ vs, v.oneCell' = true) → ∀ {cs : List V}, allP ls = some cs → repL St rd cs vs
  | [], vs, h, _, cs, hc => by simp only [allP, Option.some.injEq] at hc; subst hc; simp only [repLs] at h; subst h; simp only [repL]
  | l :: ls, vs, h, h1, cs, hc => by
    simp only [repLs] at h
    obtain ⟨v, r, rfl, hv, hr⟩ := h
    cases l with
    | p x =>
      simp only [allP] at hc
      obtain ⟨cs', hc', rfl⟩ := Option.map_eq_some_iff.1 hc
      simp only [repL]
      simp only [repLv] at hv
      have hv1 := h1 v (by simp)
      refine ⟨v, r, rfl, ⟨?_, ?_⟩, mkAgg_rep hr (fun u hu => h1 u (List.mem_cons_of_mem _ hu)) hc'⟩
      · rw [← hv.2]; exact isAgg_of_one hv1
      · have := hv.1; rwa [cells_of_one hv1] at this
    | _ => simp [allP] at hc
theorem repLv_mkAgg {mem : Key → M} {rd : Nat → Nat → Option Value} {ls : List L} {vs : List Value} (h : repLs mem G St rd ls vs) (h1 : ∀ v ∈ vs, v.oneCell' = true) : repLv mem G St rd (mkAgg ls) (.agg vs.toArray) := by
  unfold mkAgg
  split
  · rename_i cs hc
    simp only [repLv, rep, repC]
    exact ⟨mkAgg_rep h h1 hc, rfl⟩
  · simp only [repLv]
    exact ⟨vs.toArray, rfl, h⟩
theorem repL_sub {rd : Nat → Nat → Option Value} {cs r : List V} {vs : List Value} {j n : Nat} (h : repL St rd cs vs) (hr : sub cs j n = some r) : repL St rd r ((vs.drop j).take n) ∧ j + n ≤ vs.length := by
  unfold sub at hr
  split at hr
  · rename_i hj
    cases hr
    have hl := repL_len _ _ h
    have e1 : cs = cs.take j ++ ((cs.drop j).take n ++ (cs.drop j).drop n) := by rw [List.take_append_drop, List.take_append_drop]
    rw [e1] at h
    obtain ⟨l1, l2, rfl, p1, p2⟩ := repL_split h
    obtain ⟨l3, l4, rfl, p3, p4⟩ := repL_split p2
    have k1 := repL_len _ _ p1
    have k3 := repL_len _ _ p3
    simp at k1 k3
    refine ⟨?_, by simp at hl ⊢; omega⟩
    have : l1.length = j := by omega
    have h3 : l3.length = n := by omega
    rw [List.drop_left' this, List.take_left' h3]
    exact p3
  · cases hr
theorem repLv_unAggV {mem : Key → M} {rd : Nat → Nat → Option Value} {ag : Bool} {cs : List V} {vs : List Value} {v : V} (h : repL St rd cs vs) (hu : unAggV ag cs = some v) :
    (ag = true → repLv mem G St rd (.p v) (.agg vs.toArray)) ∧ (ag = false → ∃ x, vs = [x] ∧ repLv mem G St rd (.p v) x) := by
  unfold unAggV at hu
  split at hu
  · rename_i ha
    cases hu
    refine ⟨fun _ => ?_, fun h => by rw [ha] at h; cases h⟩
    simp only [repLv, rep, repC]
    exact ⟨h, rfl⟩
  · rename_i ha
    split at hu
    · rename_i c
      cases hu
      refine ⟨fun h => (ha h).elim, fun _ => ?_⟩
      simp only [repL] at h
      obtain ⟨x, r, rfl, ⟨h1, h2⟩, rfl⟩ := h
      refine ⟨x, rfl, ?_⟩
      have hp := oneCell_of_plain (repC_plain _ _ h2 x (by simp))
      simp only [repLv, rep]
      exact ⟨by rw [cells_of_one hp]; exact h2, by rw [isAgg_of_one hp, h1]⟩
    · cases hu

/-! ### loads -/
theorem RepD.load (h : RepD Γ X N ds σ a w G St own) {t : TypeId} {l : L} {v : Value} (hv : repLv σ.mem G St (rdW w) l v) (hk : vload P σ t l K) :
    ∃ e u, K e ∧ e.wr = [] ∧ (Instr.loadAt t v).run P w = .ok u w ∧ repLv σ.mem G St (rdW w) e.val u := by
  unfold vload at hk
  obtain ⟨n, hn, hk'⟩ := wantO_iff.1 hk
  clear hk
  obtain ⟨ag, ha, hk⟩ := wantO_iff.1 hk'
  clear hk'
  split at hk
  · rename_i s j
    obtain ⟨m, hm, hk⟩ := wantO_iff.1 hk
    obtain ⟨hj, hk⟩ := need_iff.1 hk
    obtain ⟨ls, hls, hk⟩ := wantO_iff.1 hk
    obtain ⟨l, hl, hK⟩ := wantO_iff.1 hk
    have hb := boxN_some hm
    obtain ⟨cs, e, vs, p1, p2, p3, p4, p5⟩ := h.boxVals hb hls hj
    simp only [repLv] at hv
    obtain ⟨rfl, _⟩ := hv
    have hc : ∀ i u, vs[i]? = some u → w.cell? ⟨G.bk s, j + i, none⟩ = some u := fun i u hi => by
      have := (p4 i u hi).1
      simp only [World.cell?, p1]; simpa using this
    unfold unAgg at hl
    split at hl
    · rename_i hag
      cases hl
      refine ⟨_, .agg vs.toArray, hK, rfl, ?_, repLv_mkAgg p5 fun u hu => ?_⟩
      · simp only [Instr.loadAt, Instr.sureAddr]
        exact run_loadVar_cells hn ha p3 hc hag
      · obtain ⟨i, hi⟩ := List.mem_iff_getElem?.1 hu
        exact (p4 i u hi).2
    · rename_i hag
      split at hl
      · rename_i l0
        cases hl
        simp only [repLs] at p5
        obtain ⟨u, r, rfl, q1, rfl⟩ := p5
        refine ⟨_, u, hK, rfl, ?_, q1⟩
        have hag' : ag = false := by simpa using hag
        subst hag'
        simp only [Instr.loadAt, Instr.sureAddr]
        exact run_loadVar_cell ha (hc 0 u rfl)
      · cases hl
  · rename_i s g i j
    obtain ⟨⟨⟨e, es⟩, xs⟩, hc, hk⟩ := wantO_iff.1 hk
    obtain ⟨x, hx, hk⟩ := wantO_iff.1 hk
    obtain ⟨cs, hcs, hk⟩ := wantO_iff.1 hk
    obtain ⟨y, hy, hK⟩ := wantO_iff.1 hk
    have hm := curA_some hc
    simp only at hm hx
    obtain ⟨h0, vs, ⟨hlen, ho⟩, hl, hxs⟩ := h.arrs s g e es xs hm
    simp only [repLv] at hv
    obtain ⟨g', e', es', xs', q1, q2, q3⟩ := hv
    rw [hm] at q1; cases q1
    obtain ⟨blk, r1, r2, rfl⟩ := q3 rfl
    rcases ho with ⟨hv, _⟩ | ⟨blk', cap, cur, hv, _, hb, hnc, _, _, hcur⟩
    · rw [hv] at r1; cases r1
    have eb : blk = blk' := by rw [hv] at r1; simpa [Value.ownBlock] using r1.symm
    subst eb
    have hxi := (repC_cells _ _).1 (hxs i x hx)
    obtain ⟨k1, k2⟩ := repL_sub hxi hcs
    have hle : i * es + es ≤ xs.length * es := by rw [← Nat.succ_mul]; exact Nat.mul_le_mul_right _ r2
    simp only [List.length_take, List.length_drop] at k2
    have hcell : ∀ k u, ((((vs.drop (i * es)).take es).drop j).take n)[k]? = some u → w.cell? ⟨blk, i * es + j + k, none⟩ = some u := fun k u hk => by
      have hkn : k < n := by have := (List.getElem?_eq_some_iff.1 hk).1; simp at this; omega
      rw [List.getElem?_take_of_lt hkn, List.getElem?_drop, List.getElem?_take_of_lt (by omega), List.getElem?_drop] at hk
      have h3 : cur[i * es + j + k]? = some u := by rw [take_get hcur (by omega), Nat.add_assoc]; exact hk
      simp only [World.cell?, hb]; simpa using h3
    have hlen2 : (((vs.drop (i * es)).take es).drop j |>.take n).length = n := by simp; omega
    obtain ⟨u1, u2⟩ := repLv_unAggV (mem := σ.mem) (G := G) k1 hy
    cases ag with
    | true =>
      refine ⟨_, _, hK, rfl, ?_, u1 rfl⟩
      simp only [Instr.loadAt, Instr.sureAddr]
      exact run_loadVar_cells hn ha hlen2 hcell rfl
    | false =>
      obtain ⟨u, hu, hr⟩ := u2 rfl
      refine ⟨_, u, hK, rfl, ?_, hr⟩
      simp only [Instr.loadAt, Instr.sureAddr]
      exact run_loadVar_cell ha (hcell 0 u (by rw [hu]; rfl))
  · rename_i cs0
    obtain ⟨cs, hcs, hk⟩ := wantO_iff.1 hk
    obtain ⟨y, hy, hK⟩ := wantO_iff.1 hk
    simp only [repLv, rep] at hv
    obtain ⟨hv, hva⟩ := hv
    simp only [repC] at hv
    obtain ⟨b, o, e1, hA⟩ := hv
    obtain ⟨l, q1, q2⟩ := repA_at.1 hA
    have ev : v = .pointer (some ⟨b, o, none⟩) := by
      cases v <;> simp [Value.cells] at e1 <;> first | (simp [e1]; done) | skip
      simp [Value.isAgg, V.isAgg] at hva
    subst ev
    obtain ⟨k1, k2⟩ := repL_sub q2 hcs
    have hcell : ∀ k u, (((l.drop 0).take n))[k]? = some u → w.cell? ⟨b, o + k, none⟩ = some u := fun k u hk => by
      have hkn : k < n := by have := (List.getElem?_eq_some_iff.1 hk).1; simp at this; omega
      rw [List.getElem?_take_of_lt hkn, List.drop_zero] at hk
      exact (cellsAt_get.1 q1 k u hk).1
    have hlen2 : ((l.drop 0).take n).length = n := by simp; omega
    obtain ⟨u1, u2⟩ := repLv_unAggV (mem := σ.mem) (G := G) k1 hy
    cases ag with
    | true =>
      refine ⟨_, _, hK, rfl, ?_, u1 rfl⟩
      simp only [Instr.loadAt, Instr.sureAddr]
      exact run_loadVar_cells hn ha hlen2 hcell rfl
    | false =>
      obtain ⟨u, hu, hr⟩ := u2 rfl
      refine ⟨_, u, hK, rfl, ?_, hr⟩
      simp only [Instr.loadAt, Instr.sureAddr]
      exact run_loadVar_cell ha (hcell 0 u (by rw [hu]; rfl))
  · exact hk.elim
end Go.Vm
