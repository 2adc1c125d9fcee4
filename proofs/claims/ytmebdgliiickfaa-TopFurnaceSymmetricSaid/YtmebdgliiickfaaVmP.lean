import Derived.Test.YtmebdgliiickfaaVmO
set_option linter.all false
/- Each operation does in the model what the value machine says: len, min, max, slices, function values. -/
namespace Go.Vm
variable {Γ : Nat → Option (List V)} {X : Ctx} {N : Nat} {ds : List Deferred} {σ : VS} {a : Act} {w w' : World} {G G' : GG} {St St' : Nat → Nat → Prop} {own : Nat → Prop} {P : Program} {K : Eff → Prop}

theorem lens_ok (h : RepD Γ X N ds σ a w G St own) {x : L} {u : Value} {n : Nat} {ks : List Key} (hx : repLv σ.mem G St (rdW w) x u) (hl : lens σ x = some (n, ks)) : (∃ s, u = .string s ∧ n = s.size ∧ x = .p (.s s)) ∨ (∃ b c, u = .slice b n c) ∧ ∀ s, x ≠ .p (.s s) := by
  unfold lens at hl
  split at hl
  · rename_i s
    simp only [Option.some.injEq, Prod.mk.injEq] at hl
    obtain ⟨rfl, rfl⟩ := hl
    exact .inl ⟨s, pstr hx, rfl, rfl⟩
  · rename_i hns
    obtain ⟨⟨xs, k⟩, hc, hp⟩ := Option.map_eq_some_iff.1 hl
    simp only [Prod.mk.injEq] at hp
    obtain ⟨rfl, rfl⟩ := hp
    refine .inr ⟨?_, fun s e => hns s e⟩
    unfold conts at hc
    split at hc
    · simp only [Option.some.injEq, Prod.mk.injEq] at hc
      obtain ⟨rfl, rfl⟩ := hc
      rcases psl hx with ⟨rfl, rfl⟩ | ⟨b, o, cap, sz, rfl, _, _⟩
      · exact ⟨none, 0, rfl⟩
      · exact ⟨_, _, rfl⟩
    · simp only [Option.some.injEq, Prod.mk.injEq] at hc
      obtain ⟨rfl, rfl⟩ := hc
      simp only [repLv] at hx
      exact ⟨none, 0, hx⟩
    · simp only [Option.some.injEq, Prod.mk.injEq] at hc
      obtain ⟨rfl, rfl⟩ := hc
      simp only [repLv] at hx
      rcases hx with rfl | ⟨b, o, rfl⟩
      · exact ⟨none, 0, rfl⟩
      · exact ⟨_, 0, rfl⟩
    · rename_i t g
      obtain ⟨⟨⟨e, es⟩, xs'⟩, hcu, hp⟩ := Option.map_eq_some_iff.1 hc
      simp only [Prod.mk.injEq] at hp
      obtain ⟨rfl, rfl⟩ := hp
      have hm := curA_some hcu
      have hv := h.arrVal hm hx
      obtain ⟨_, vs, ho, _⟩ := h.arrs t g _ _ _ hm
      rcases ho.2 with ⟨p1, p2⟩ | ⟨blk, cap, cur, p1, _⟩
      · exact ⟨none, 0, by rw [hv, p1]; simp only at p2; rw [p2]⟩
      · exact ⟨_, _, by rw [hv, p1]⟩
    · cases hc

theorem RepD.len (h : RepD Γ X N ds σ a w G St own) {t ty : TypeId} {x : L} {u : Value} (hx : repLv σ.mem G St (rdW w) x u) (hk : vlen σ P t x K) : Gives P σ G St w (Builtin.len_ #[t] ty #[u]) K := by
  unfold vlen at hk
  split at hk
  · rename_i n e hq
    exact .mk hk rfl (u := .int .i64 n) (by simp [Builtin.len_, run_underlying (arq_some hq), goInt]) mk_int
  · obtain ⟨hc, hk⟩ := need_iff.1 hk
    obtain ⟨⟨n, ks⟩, hl, hK⟩ := wantO_iff.1 hk
    refine .mk hK rfl (u := .int .i64 n) ?_ mk_int
    rcases lens_ok h hx hl with ⟨s, rfl, rfl, rfl⟩ | ⟨⟨b, c, rfl⟩, hns⟩
    · rcases hc with ⟨h1, _⟩ | ⟨_, h2⟩
      · have hu : P.underlying t = some .string := by unfold isStr at h1; split at h1 <;> first | assumption | cases h1
        simp [Builtin.len_, run_underlying hu, goInt]
      · exact h2.elim
    · rcases hc with ⟨_, h2⟩ | ⟨h1, _⟩
      · split at h2
        · exact (hns _ rfl).elim
        · exact h2.elim
      · obtain ⟨e, he⟩ := Option.isSome_iff_exists.1 h1
        simp [Builtin.len_, run_underlying (elq_some he), goInt]

theorem max_run {mem : Key → M} {rd : Nat → Nat → Option Value} {k : IntKind} : ∀ {ls : List L} {vs : List Value} {x : Int} {v : V}, repLs mem G St rd ls vs → maxI k x ls = some v → ∀ w : World, ∃ n, v = .i k n ∧ (vs.foldlM Builtin.max2 (.int k x)).run P w = .ok (.int k n) w
  | [], vs, x, v, h, hm, w => by simp only [repLs] at h; subst h; simp only [maxI, Option.some.injEq] at hm; exact ⟨x, hm.symm, by simp⟩
  | l :: ls, vs, x, v, h, hm, w => by
    simp only [repLs] at h
    obtain ⟨u, r, rfl, h1, h2⟩ := h
    unfold maxI at hm
    split at hm
    · rename_i e; cases e
    · rename_i k' y r' e
      cases e
      split at hm
      · rename_i hkk
        subst hkk
        rw [pint h1]
        obtain ⟨n, e1, e2⟩ := max_run h2 hm w
        exact ⟨n, e1, by simp only [List.foldlM_cons, Sem.run_bind, Builtin.max2, Sem.run_pure, Result.andThen_ok]; exact e2⟩
      · cases hm
    · cases hm
theorem min_run {mem : Key → M} {rd : Nat → Nat → Option Value} {k : IntKind} : ∀ {ls : List L} {vs : List Value} {x : Int} {v : V}, repLs mem G St rd ls vs → minI k x ls = some v → ∀ w : World, ∃ n, v = .i k n ∧ (vs.foldlM Builtin.min2 (.int k x)).run P w = .ok (.int k n) w
  | [], vs, x, v, h, hm, w => by simp only [repLs] at h; subst h; simp only [minI, Option.some.injEq] at hm; exact ⟨x, hm.symm, by simp⟩
  | l :: ls, vs, x, v, h, hm, w => by
    simp only [repLs] at h
    obtain ⟨u, r, rfl, h1, h2⟩ := h
    unfold minI at hm
    split at hm
    · rename_i e; cases e
    · rename_i k' y r' e
      cases e
      split at hm
      · rename_i hkk
        subst hkk
        rw [pint h1]
        obtain ⟨n, e1, e2⟩ := min_run h2 hm w
        exact ⟨n, e1, by simp only [List.foldlM_cons, Sem.run_bind, Builtin.min2, Sem.run_pure, Result.andThen_ok]; exact e2⟩
      · cases hm
    · cases hm

theorem RepD.minmax {mx : Bool} {ats : Array TypeId} {ty : TypeId} {ls : List L} {vs : List Value} (hx : repLs σ.mem G St (rdW w) ls vs) (hk : vminmax mx ls K) : Gives P σ G St w (if mx then Builtin.max_ ats ty vs.toArray else Builtin.min_ ats ty vs.toArray) K := by
  unfold vminmax at hk
  split at hk
  · rename_i k x r
    obtain ⟨v, hv, hK⟩ := wantO_iff.1 hk
    simp only [repLs] at hx
    obtain ⟨u, r', rfl, h1, h2⟩ := hx
    rw [pint h1]
    cases mx with
    | true =>
      obtain ⟨n, rfl, hr⟩ := max_run (P := P) h2 hv w
      exact .mk hK rfl (by simpa [Builtin.max_] using hr) mk_int
    | false =>
      obtain ⟨n, rfl, hr⟩ := min_run (P := P) h2 hv w
      exact .mk hK rfl (by simpa [Builtin.min_] using hr) mk_int
  · exact hk.elim

theorem RepD.mkFunc (h : RepD Γ X N ds σ a w G St own) {f : FuncId} {first caps : List L} {fs cs : List Value} (hf : repLs σ.mem G St (rdW w) first fs) (hc : repLs σ.mem G St (rdW w) caps cs) (hk : vmakeFunc σ f first caps K) :
    Makes P Γ X N ds σ a w (Instr.makeFunc (.func f) fs.toArray cs.toArray) K := by
  unfold vmakeFunc at hk
  obtain ⟨p, hp, hk⟩ := wantO_iff.1 hk
  obtain ⟨q, hq, hK⟩ := wantO_iff.1 hk
  have hF := h.frz (p.fz ++ q.fz)
  have e : frzs (p.fz ++ q.fz) = frzs p.fz ++ frzs q.fz := by simp [frzs]
  rw [e] at hF
  refine ⟨_, .func (.func f) fs.toArray cs.toArray, w, hK, rfl, G, _, own, hF, ?_⟩
  simp only [repLv, rep]
  refine ⟨?_, rfl⟩
  simp only [repC]
  exact ⟨_, _, rfl, h.pubs hp hf (fun t ht => List.mem_append_left _ ht), h.pubOs hq hc (fun t ht => List.mem_append_right _ ht)⟩

/-! slices -/
theorem bnd_ok {mem : Key → M} {rd : Nat → Nat → Option Value} {d : Nat} {o : Option L} {v : Option Value} {n : Int} (hv : match o, v with | none, none => True | some l, some u => repLv mem G St rd l u | _, _ => False) (hb : bnd d o = some n) : (v = none ∧ n = d) ∨ ∃ k, v = some (.int k n) := by
  unfold bnd at hb
  split at hb
  · cases hb
    cases v with
    | none => exact .inl ⟨rfl, rfl⟩
    | some _ => exact hv.elim
  · cases hb
    cases v with
    | none => exact hv.elim
    | some u => exact .inr ⟨_, by rw [pint hv]⟩
  · cases hb

theorem run_bounds {isSl : Bool} {len cap : Nat} {lo hi : Option Value} {x y : Int} (hlo : (lo = none ∧ x = (0 : Nat)) ∨ ∃ k, lo = some (.int k x)) (hhi : (hi = none ∧ y = len) ∨ ∃ k, hi = some (.int k y)) (h0 : 0 ≤ x) (h1 : x ≤ y) (h2 : y ≤ len) (h3 : len ≤ cap) (w : World) :
    (Instr.sliceBounds isSl len cap lo hi none).run P w = .ok (x.toNat, y.toNat, cap) w := by
  have c1 : y ≤ (cap : Int) := by omega
  have c2 : 0 ≤ y := by omega
  have c3 : x ≤ (y.toNat : Int) := by omega
  obtain ⟨y, rfl⟩ := Int.eq_ofNat_of_zero_le c2
  obtain ⟨x, rfl⟩ := Int.eq_ofNat_of_zero_le h0
  simp only [Int.toNat_natCast] at c3 ⊢
  have d1 : y ≤ cap := by omega
  have d2 : x ≤ y := by omega
  have d3 : x ≤ len := by omega
  rcases hlo with ⟨rfl, hx⟩ | ⟨k, rfl⟩ <;> rcases hhi with ⟨rfl, hy⟩ | ⟨k', rfl⟩
  · obtain rfl : x = 0 := by omega
    obtain rfl : y = len := by omega
    simp [Instr.sliceBounds]
  · obtain rfl : x = 0 := by omega
    simp [Instr.sliceBounds, Instr.sliceBound, asIntOf, d1]
  · obtain rfl : y = len := by omega
    simp [Instr.sliceBounds, Instr.sliceBound, asIntOf, d2]
  · simp [Instr.sliceBounds, Instr.sliceBound, asIntOf, d1, d2]

theorem repE_sub {xs : List V} {b sz o m n : Nat} {rd : Nat → Nat → Option Value} (h : repE St rd xs b sz o) : repE St rd ((xs.take n).drop m) b sz (o + m * sz) := by
  refine repE_get.2 fun i x hi => ?_
  rw [List.getElem?_drop] at hi
  have hlt : m + i < n := Classical.byContradiction fun hn => by rw [List.getElem?_eq_none (by simp; omega)] at hi; cases hi
  rw [List.getElem?_take_of_lt hlt] at hi
  have := repE_get.1 h (m + i) x hi
  rwa [Nat.add_mul, ← Nat.add_assoc] at this

theorem RepD.slc (h : RepD Γ X N ds σ a w G St own) {t : TypeId} {x : L} {u : Value} {lo hi mx : Option L} {vlo vhi vmx : Option Value} (hx : repLv σ.mem G St (rdW w) x u)
    (hlo : match lo, vlo with | none, none => True | some l, some u => repLv σ.mem G St (rdW w) l u | _, _ => False) (hhi : match hi, vhi with | none, none => True | some l, some u => repLv σ.mem G St (rdW w) l u | _, _ => False)
    (hmx : match mx, vmx with | none, none => True | some l, some u => repLv σ.mem G St (rdW w) l u | _, _ => False) (hk : vslice P σ t x lo hi mx K) : Makes P Γ X N ds σ a w (Instr.sliceAt t u vlo vhi vmx) K := by
  unfold vslice at hk
  split at hk
  · rename_i s
    obtain ⟨⟨h1, h2⟩, hk⟩ := need_iff.1 hk
    obtain ⟨x1, hx1, hk⟩ := wantO_iff.1 hk
    obtain ⟨y1, hy1, hk⟩ := wantO_iff.1 hk
    obtain ⟨⟨c1, c2, c3⟩, hK⟩ := need_iff.1 hk
    have hu : P.underlying t = some .string := by unfold isStr at h1; split at h1 <;> first | assumption | cases h1
    have e : vmx = none := by cases mx <;> simp at h2; cases vmx <;> first | rfl | exact hmx.elim
    subst e
    rw [pstr hx]
    refine Gives.makes h (.mk hK rfl (u := .string (s.extract x1.toNat y1.toNat)) ?_ mk_str)
    have hb := run_bounds (P := P) (isSl := false) (bnd_ok hlo hx1) (bnd_ok hhi hy1) c1 c2 c3 (Nat.le_refl _) w
    simp [Instr.sliceAt, run_underlying hu, Instr.slice, hb]
  · obtain ⟨e, he, hk1⟩ := wantO_iff.1 hk
    obtain ⟨es, hes, hk2⟩ := wantO_iff.1 hk1
    obtain ⟨q, hq, hk3⟩ := wantO_iff.1 hk2
    clear hk hk1 hk2
    have hF := h.frz q.fz
    have hr := h.pub0 hq hx (fz := q.fz) fun _ h => h
    split at hk3
    · rename_i xs hqv
      rw [hqv] at hr
      have hr' : repLv σ.mem G (stF σ G St q.fz) (rdW w) (.p (.sl xs)) u := by simp only [repLv]; exact hr
      split at hk3
      · obtain ⟨x1, hx1, hk⟩ := wantO_iff.1 hk3
        obtain ⟨y1, hy1, hk⟩ := wantO_iff.1 hk
        obtain ⟨⟨c1, c2, c3, c4⟩, hK⟩ := need_iff.1 hk
        have e1 : vmx = none := by cases vmx <;> first | rfl | exact hmx.elim
        subst e1
        rcases psl hr' with ⟨hn, rfl⟩ | ⟨b, o, cap, sz, rfl, hcap, hE⟩
        · subst hn
          have hb := run_bounds (P := P) (isSl := true) (cap := 0) (bnd_ok hlo hx1) (bnd_ok hhi hy1) c1 c2 c3 (Nat.le_refl _) w
          simp only [List.length_nil] at hb c3
          have z1 : x1.toNat = 0 := by omega
          have z2 : y1.toNat = 0 := by omega
          refine ⟨_, .slice none 0 0, w, hK, ?_, G, _, own, hF, ?_⟩
          · simp [Instr.sliceAt, run_underlying (elq_some he), Instr.slice, hb, run_sizeOf hes, z1, z2]
          · simp only [repLv, rep]
            refine ⟨?_, rfl⟩
            simp [repC, Value.cells]
        · have hb := run_bounds (P := P) (isSl := true) (bnd_ok hlo hx1) (bnd_ok hhi hy1) c1 c2 c3 hcap w
          have hl : ((xs.take y1.toNat).drop x1.toNat).length = y1.toNat - x1.toNat := by simp; omega
          refine ⟨_, .slice (some (if cap = x1.toNat then ⟨b, o, none⟩ else ⟨b, o + x1.toNat * es, none⟩)) (y1.toNat - x1.toNat) (cap - x1.toNat), w, hK, ?_, G, _, own, hF, ?_⟩
          · simp only [Instr.sliceAt, Instr.slice, Sem.run_bind, run_underlying (elq_some he), Result.andThen_ok, hb, run_sizeOf hes, Sem.run_pure]
            split <;> simp [add_addr]
          · simp only [repLv, rep]
            refine ⟨?_, rfl⟩
            simp only [repC, Value.cells]
            refine .inr ⟨b, if cap = x1.toNat then o else o + x1.toNat * es, cap - x1.toNat, sz, ?_, by rw [hl]; omega, ?_⟩
            · rw [hl]; split <;> rfl
            · split
              · rename_i hcx
                have : (xs.take y1.toNat).drop x1.toNat = [] := List.eq_nil_of_length_eq_zero (by rw [hl]; omega)
                rw [this]; simp only [repE]
              · have hsz : (xs.take y1.toNat).drop x1.toNat = [] ∨ sz = es := by
                  cases hxs : xs with
                  | nil => left; simp
                  | cons y ys =>
                    right
                    obtain ⟨vs, v1, _, v3⟩ := repE_get.1 hE 0 y (by rw [hxs]; rfl)
                    have := repC_len _ _ v3
                    have := c4 y (by rw [hxs]; simp)
                    omega
                rcases hsz with hsz | hsz
                · rw [hsz]; simp only [repE]
                · subst hsz; exact repE_sub hE
      · rename_i m
        obtain ⟨x1, hx1, hk⟩ := wantO_iff.1 hk3
        obtain ⟨y1, hy1, hk⟩ := wantO_iff.1 hk
        obtain ⟨z1, hz1, hk⟩ := wantO_iff.1 hk
        obtain ⟨⟨rfl, rfl, rfl, hhs⟩, hK⟩ := need_iff.1 hk
        have hm2 := bnd_ok hmx hz1
        have hl2 := bnd_ok hlo hx1
        have hh2 := bnd_ok hhi hy1
        have hb : ∀ len cap, (Instr.sliceBounds true len cap vlo vhi vmx).run P w = .ok (0, 0, 0) w := fun len cap => by
          rcases hm2 with ⟨e1, _⟩ | ⟨km, rfl⟩
          · subst e1; exact hmx.elim
          rcases hh2 with ⟨e1, _⟩ | ⟨kh, rfl⟩
          · subst e1
            cases hi with
            | none => simp at hhs
            | some l => exact hhi.elim
          rcases hl2 with ⟨rfl, _⟩ | ⟨kl, rfl⟩
          · simp [Instr.sliceBounds, Instr.sliceBound, asIntOf]
          · simp [Instr.sliceBounds, Instr.sliceBound, asIntOf]
        rcases psl hr' with ⟨hn, rfl⟩ | ⟨b, o, cap, sz, rfl, hcap, hE⟩
        · refine Gives.makes h (.mk hK rfl (u := .slice none 0 0) ?_ (by simp [repLv]))
          simp [Instr.sliceAt, run_underlying (elq_some he), Instr.slice, hb, run_sizeOf hes]
        · refine Gives.makes h (.mk hK rfl (u := .slice (some ⟨b, o, none⟩) 0 0) ?_ (by simp [repLv]))
          simp [Instr.sliceAt, run_underlying (elq_some he), Instr.slice, hb, run_sizeOf hes]
    · exact hk3.elim
end Go.Vm
