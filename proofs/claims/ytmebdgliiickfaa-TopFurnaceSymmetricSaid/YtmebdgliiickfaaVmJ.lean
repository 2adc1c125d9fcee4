import Derived.Test.YtmebdgliiickfaaVmI
set_option linter.all false
/- Each operation does in the model what the value machine says: addresses, parts, numbers. -/
namespace Go.Vm
variable {Γ : Nat → Option (List V)} {X : Ctx} {N : Nat} {ds : List Deferred} {σ : VS} {a : Act} {w w' : World} {G G' : GG} {St St' : Nat → Nat → Prop} {own : Nat → Prop} {P : Program} {K : Eff → Prop}

/-- What an operation yields that leaves the world alone. -/
def Gives (P : Program) (σ : VS) (G : GG) (St : Nat → Nat → Prop) (w : World) (s : Sem Value) (K : Eff → Prop) : Prop :=
  ∃ e u, K e ∧ e.wr = [] ∧ s.run P w = .ok u w ∧ repLv σ.mem G St (rdW w) e.val u

theorem flq_some {t f : Nat} {q : Nat × Nat × Nat} (h : flq P t f = some q) : ∃ fs x m, P.underlying t = some (.struct fs) ∧ fs[f]? = some x ∧ x.type = q.1 ∧ x.offset = q.2.1 ∧ szq P x.type = some (m + 1) ∧ q.2.2 = m + 1 := by
  unfold flq at h
  split at h
  · rename_i fs hu
    split at h
    · rename_i x hx
      split at h
      · rename_i n hn; cases h; exact ⟨fs, x, n, hu, hx, rfl, rfl, hn, rfl⟩
      · cases h
    · cases h
  · cases h

theorem pval {x : V} {v : Value} {mem : Key → M} {rd : Nat → Nat → Option Value} (h : repLv mem G St rd (.p x) v) : repC St rd x v.cells.toList ∧ Value.isAgg v = x.isAgg := by simpa only [repLv, rep] using h
theorem val_of_one {v u : Value} (h : v.cells.toList = [u]) (ha : Value.isAgg v = false) : v = u := by
  cases v <;> first | (simp [Value.isAgg] at ha; done) | (simpa [Value.cells] using h)
theorem pint {k : IntKind} {n : Int} {v : Value} {mem : Key → M} {rd : Nat → Nat → Option Value} (h : repLv mem G St rd (.p (.i k n)) v) : v = .int k n := by
  obtain ⟨h1, h2⟩ := pval h; simp only [repC] at h1; exact val_of_one h1 h2
theorem pbool {x : Bool} {v : Value} {mem : Key → M} {rd : Nat → Nat → Option Value} (h : repLv mem G St rd (.p (.b x)) v) : v = .bool x := by
  obtain ⟨h1, h2⟩ := pval h; simp only [repC] at h1; exact val_of_one h1 h2
theorem pstr {x : ByteArray} {v : Value} {mem : Key → M} {rd : Nat → Nat → Option Value} (h : repLv mem G St rd (.p (.s x)) v) : v = .string x := by
  obtain ⟨h1, h2⟩ := pval h; simp only [repC] at h1; exact val_of_one h1 h2
theorem pref {cs : List V} {v : Value} {mem : Key → M} {rd : Nat → Nat → Option Value} (h : repLv mem G St rd (.p (.ref cs)) v) : ∃ b o, v = .pointer (some ⟨b, o, none⟩) ∧ repA St rd cs b o := by
  obtain ⟨h1, h2⟩ := pval h; simp only [repC] at h1
  obtain ⟨b, o, e, p⟩ := h1
  exact ⟨b, o, val_of_one e h2, p⟩
theorem psl {xs : List V} {v : Value} {mem : Key → M} {rd : Nat → Nat → Option Value} (h : repLv mem G St rd (.p (.sl xs)) v) :
    (xs = [] ∧ v = .slice none 0 0) ∨ ∃ b o cap sz, v = .slice (some ⟨b, o, none⟩) xs.length cap ∧ xs.length ≤ cap ∧ repE St rd xs b sz o := by
  obtain ⟨h1, h2⟩ := pval h; simp only [repC] at h1
  rcases h1 with ⟨p, q⟩ | ⟨b, o, cap, sz, e, p, q⟩
  · exact .inl ⟨p, val_of_one q h2⟩
  · exact .inr ⟨b, o, cap, sz, val_of_one e h2, p, q⟩
theorem pagg {cs : List V} {v : Value} {mem : Key → M} {rd : Nat → Nat → Option Value} (h : repLv mem G St rd (.p (.agg cs)) v) : ∃ vs, v = .agg vs ∧ repL St rd cs vs.toList := by
  obtain ⟨h1, h2⟩ := pval h; simp only [repC] at h1
  cases v <;> first | (simp [Value.isAgg, V.isAgg] at h2; done) | skip
  rename_i vs
  exact ⟨vs, rfl, h1⟩
theorem mk_int {k : IntKind} {n : Int} {mem : Key → M} {rd : Nat → Nat → Option Value} : repLv mem G St rd (.p (.i k n)) (.int k n) := by
  simp only [repLv, rep]; exact ⟨by simp [repC, Value.cells], rfl⟩
theorem mk_bool {x : Bool} {mem : Key → M} {rd : Nat → Nat → Option Value} : repLv mem G St rd (.p (.b x)) (.bool x) := by
  simp only [repLv, rep]; exact ⟨by simp [repC, Value.cells], rfl⟩
theorem mk_str {x : ByteArray} {mem : Key → M} {rd : Nat → Nat → Option Value} : repLv mem G St rd (.p (.s x)) (.string x) := by
  simp only [repLv, rep]; exact ⟨by simp [repC, Value.cells], rfl⟩
theorem mk_ref {cs : List V} {b o : Nat} {mem : Key → M} {rd : Nat → Nat → Option Value} (h : repA St rd cs b o) : repLv mem G St rd (.p (.ref cs)) (.pointer (some ⟨b, o, none⟩)) := by
  simp only [repLv, rep, repC]; exact ⟨⟨b, o, rfl, h⟩, rfl⟩
theorem repA_drop {rd : Nat → Nat → Option Value} : ∀ {cs : List V} {b o n : Nat}, repA St rd cs b o → repA St rd (cs.drop n) b (o + n)
  | [], _, _, _, _ => by simp [repA]
  | c :: cs, b, o, 0, h => h
  | c :: cs, b, o, n + 1, h => by
    simp only [repA] at h
    have := repA_drop (n := n) h.2
    rw [List.drop_succ_cons]
    rwa [Nat.add_right_comm, Nat.add_assoc] at this

theorem repLs_one {mem : Key → M} {rd : Nat → Nat → Option Value} {ls : List L} {vs : List Value} (hl : ls.all L.isCell = true) (hr : repLs mem G St rd ls vs) : ∀ v ∈ vs, v.oneCell' = true := fun v hv => by
  obtain ⟨i, hi⟩ := List.mem_iff_getElem?.1 hv
  obtain ⟨h1, h2⟩ := repLs_get.1 hr
  have hil : i < ls.length := by rw [h1]; exact (List.getElem?_eq_some_iff.1 hi).1
  exact isCell_one (List.all_eq_true.1 hl _ (List.getElem_mem hil)) (h2 i ls[i] v (by simp [hil]) hi)

/-- An element's address: its cells. -/
theorem elem_ref {xs : List V} {b o sz es : Nat} {rd : Nat → Nat → Option Value} (h : repE St rd xs b sz o) {i : Nat} {x : V} (hx : xs[i]? = some x) (hes : x.cells.length = es) : repA St rd x.cells b (o + i * es) := by
  obtain ⟨vs, h1, h2, h3⟩ := repE_get.1 h i x hx
  have hl := repC_len _ _ h3
  have : sz = es := by omega
  subst this
  exact repA_at.2 ⟨vs, h2, (repC_cells _ _).1 h3⟩

theorem RepD.fieldAddr (_ : RepD Γ X N ds σ a w G St own) {t f : Nat} {x : L} {v : Value} (hv : repLv σ.mem G St (rdW w) x v) (hk : vfieldAddr P σ t x f K) : Gives P σ G St w (Instr.fieldAt t v f) K := by
  unfold vfieldAddr at hk
  obtain ⟨⟨ty, off, n⟩, hq, hk'⟩ := wantO_iff.1 hk
  obtain ⟨fs, fl, m, q1, q2, q3, q4, q5, q6⟩ := flq_some hq
  simp only at q3 q4 q6 hk'
  subst q4
  have hrun : ∀ b o, (Instr.fieldAt t (.pointer (some ⟨b, o, none⟩)) f).run P w = .ok (.pointer (some ⟨b, o + fl.offset, none⟩)) w := fun b o => by
    simp [Instr.fieldAt, run_underlying q1, q2, Instr.sureAddr, fieldPlace, run_sizeOf q5, add_addr]
  split at hk'
  · rename_i s j
    obtain ⟨m', hm, hk⟩ := wantO_iff.1 hk'
    obtain ⟨h1, hK⟩ := need_iff.1 hk
    simp only [repLv] at hv
    obtain ⟨rfl, _⟩ := hv
    refine ⟨_, _, hK, rfl, hrun _ _, ?_⟩
    simp only [repLv]
    exact ⟨trivial, m', boxN_some hm, by omega⟩
  · rename_i s g i j
    obtain ⟨q, hc, hK⟩ := wantO_iff.1 hk'
    have hm := curA_some hc
    simp only [repLv] at hv
    obtain ⟨g', e, es, xs, p1, p2, p3⟩ := hv
    rw [hm] at p1; cases p1
    obtain ⟨blk, r1, r2, rfl⟩ := p3 rfl
    refine ⟨_, _, hK, rfl, hrun _ _, ?_⟩
    simp only [repLv]
    exact ⟨g, _, _, _, hm, Nat.le_refl _, fun _ => ⟨blk, r1, r2, by rw [Nat.add_assoc]⟩⟩
  · rename_i cs
    obtain ⟨b, o, rfl, hA⟩ := pref hv
    exact ⟨_, _, hk', rfl, hrun _ _, mk_ref (repA_drop hA)⟩
  · exact hk'.elim

theorem RepD.indexAddr (h : RepD Γ X N ds σ a w G St own) {t : TypeId} {x i : L} {v u : Value} (hv : repLv σ.mem G St (rdW w) x v) (hu : repLv σ.mem G St (rdW w) i u) (hk : vindexAddr P σ t x i K) :
    Gives P σ G St w (Instr.indexAt t v u) K := by
  unfold vindexAddr at hk
  split at hk
  · rename_i s g k n
    obtain ⟨e, he, hk⟩ := wantO_iff.1 hk
    obtain ⟨es, hes, hk⟩ := wantO_iff.1 hk
    obtain ⟨⟨⟨e', es'⟩, xs⟩, hc, hk⟩ := wantO_iff.1 hk
    obtain ⟨⟨h1, h2, h3⟩, hK⟩ := need_iff.1 hk
    have hm := curA_some hc
    simp only at hm h1 h3
    subst h1
    have hu := pint hu
    subst hu
    have hva := h.arrVal hm hv
    obtain ⟨_, vs, ⟨hlen, ho⟩, _⟩ := h.arrs s g _ _ _ hm
    rcases ho with ⟨_, h0⟩ | ⟨blk, cap, cur, hav, _⟩
    · omega
    rw [hav] at hva
    subst hva
    refine ⟨_, .pointer (some ⟨blk, n.toNat * es', none⟩), hK, rfl, ?_, ?_⟩
    · simp [Instr.indexAt, run_underlying (elq_some he), asIntOf, h2, h3, run_sizeOf hes, add_addr]
    · simp only [repLv]
      exact ⟨g, _, _, _, hm, Nat.le_refl _, fun _ => ⟨blk, by rw [hav]; rfl, by omega, by simp⟩⟩
  · rename_i xs k n
    obtain ⟨e, he, hk⟩ := wantO_iff.1 hk
    obtain ⟨es, hes, hk⟩ := wantO_iff.1 hk
    obtain ⟨y, h0, hy, hk⟩ := hk
    obtain ⟨h1, hK⟩ := need_iff.1 hk
    have hu := pint hu
    subst hu
    have hlt : n.toNat < xs.length := (List.getElem?_eq_some_iff.1 hy).1
    rcases psl hv with ⟨rfl, _⟩ | ⟨b, o, cap, sz, rfl, _, hE⟩
    · simp at hy
    refine ⟨_, .pointer (some ⟨b, o + n.toNat * es, none⟩), hK, rfl, ?_, mk_ref (elem_ref hE hy h1)⟩
    have : n < xs.length := by omega
    simp [Instr.indexAt, run_underlying (elq_some he), asIntOf, h0, this, run_sizeOf hes, add_addr]
  · rename_i s j k n
    obtain ⟨⟨len, e⟩, he, hk⟩ := wantO_iff.1 hk
    obtain ⟨es, hes, hk⟩ := wantO_iff.1 hk
    obtain ⟨m, hm, hk⟩ := wantO_iff.1 hk
    obtain ⟨⟨h1, h2, h3⟩, hK⟩ := need_iff.1 hk
    have hu := pint hu
    subst hu
    simp only [repLv] at hv
    obtain ⟨rfl, m', hm', hj⟩ := hv
    have hb := boxN_some hm
    rw [hb] at hm'; cases hm'
    refine ⟨_, .pointer (some ⟨G.bk s, j + n.toNat * es, none⟩), hK, rfl, ?_, ?_⟩
    · simp [Instr.indexAt, run_underlying (arq_some he), asIntOf, Instr.sureAddr, h1, h2, run_sizeOf hes, add_addr]
    · simp only [repLv]
      refine ⟨trivial, m, hb, ?_⟩
      have : n.toNat * es ≤ len * es := Nat.mul_le_mul_right _ (by omega)
      rcases Nat.eq_zero_or_pos es with h0 | h0
      · subst h0; simp; omega
      · have : n.toNat * es + es ≤ len * es := by rw [← Nat.succ_mul]; exact Nat.mul_le_mul_right _ (by omega)
        omega
  · rename_i cs k n
    obtain ⟨⟨len, e⟩, he, hk⟩ := wantO_iff.1 hk
    obtain ⟨es, hes, hk⟩ := wantO_iff.1 hk
    obtain ⟨⟨h1, h2, h3⟩, hK⟩ := need_iff.1 hk
    have hu := pint hu
    subst hu
    obtain ⟨b, o, rfl, hA⟩ := pref hv
    refine ⟨_, .pointer (some ⟨b, o + n.toNat * es, none⟩), hK, rfl, ?_, mk_ref (repA_drop hA)⟩
    simp [Instr.indexAt, run_underlying (arq_some he), asIntOf, Instr.sureAddr, h1, h2, run_sizeOf hes, add_addr]
  · exact hk.elim

theorem RepD.part (_ : RepD Γ X N ds σ a w G St own) {t off : Nat} {x : L} {cs : Array Value} (hv : repLv σ.mem G St (rdW w) x (.agg cs)) (hk : vpart P t x off K) : Gives P σ G St w (part t cs off) K := by
  unfold vpart at hk
  obtain ⟨n, hn, hk'⟩ := wantO_iff.1 hk
  clear hk
  obtain ⟨ag, ha, hk⟩ := wantO_iff.1 hk'
  clear hk'
  have run1 : ∀ vs : List Value, (cs.toList.drop off).take n = vs → off + n ≤ cs.size → ag = true → (Go.part t cs off).run P w = .ok (.agg vs.toArray) w := fun vs hvs hle hag => by
    subst hag
    have : cs.extract off (off + n) = vs.toArray := by
      rw [← hvs]; apply Array.toList_inj.1; simp [List.take_drop]
    simp [Go.part, run_isAgg ha, run_sizeOf hn, this]
  have run2 : ∀ u, (cs.toList.drop off).take n = [u] → ag = false → (Go.part t cs off).run P w = .ok u w := fun u hu hag => by
    subst hag
    have h1 : cs[off]? = some u := by
      have : ((cs.toList.drop off).take n)[0]? = some u := by rw [hu]; rfl
      have hn0 : 0 < n := by rcases Nat.eq_zero_or_pos n with h | h
                             · subst h; simp at hu
                             · exact h
      rw [List.getElem?_take_of_lt hn0, List.getElem?_drop] at this
      simpa using this
    simp [Go.part, run_isAgg ha, h1]
  split at hk
  · rename_i cs0
    obtain ⟨c1, hc1, hk⟩ := wantO_iff.1 hk
    obtain ⟨y, hy, hK⟩ := wantO_iff.1 hk
    obtain ⟨vs, e, hL⟩ := pagg hv
    cases e
    obtain ⟨k1, k2⟩ := repL_sub hL hc1
    obtain ⟨u1, u2⟩ := repLv_unAggV (mem := σ.mem) (G := G) k1 hy
    cases hag : ag with
    | true => exact ⟨_, _, hK, rfl, run1 _ rfl (by simpa using k2) hag, u1 hag⟩
    | false =>
      obtain ⟨u, hu, hr⟩ := u2 hag
      exact ⟨_, _, hK, rfl, run2 u hu hag, hr⟩
  · rename_i ls
    obtain ⟨⟨h1, h1'⟩, hk⟩ := need_iff.1 hk
    obtain ⟨l, hl, hK⟩ := wantO_iff.1 hk
    simp only [repLv] at hv
    obtain ⟨vs, e, hL⟩ := hv
    cases e
    have hlen := repLs_length hL
    have hsub := repLs_take (repLs_drop hL off) n
    unfold unAgg at hl
    split at hl
    · rename_i hag
      cases hl
      exact ⟨_, _, hK, rfl, run1 _ rfl (by simp at hlen; omega) hag, repLv_mkAgg hsub (repLs_one h1' hsub)⟩
    · rename_i hag
      split at hl
      · rename_i l0 hl0
        cases hl
        rw [hl0] at hsub
        simp only [repLs] at hsub
        obtain ⟨u, r, hu, q1, rfl⟩ := hsub
        exact ⟨_, _, hK, rfl, run2 u hu (by simpa using hag), q1⟩
      · cases hl
  · exact hk.elim
end Go.Vm
