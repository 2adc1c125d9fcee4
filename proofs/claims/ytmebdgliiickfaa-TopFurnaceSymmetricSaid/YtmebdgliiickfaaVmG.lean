import Derived.Test.YtmebdgliiickfaaVmF
import Derived.Laws.Entries
import Derived.Laws.Tables
set_option linter.all false
/- What is handed on reads as the pure value that the machine says. -/
namespace Go.Vm
variable {Γ : Nat → Option (List V)} {X : Ctx} {N : Nat} {ds : List Deferred} {σ : VS} {a : Act} {w w' : World} {G G' : GG} {St St' : Nat → Nat → Prop} {own : Nat → Prop} {P : Program}

theorem curA_some {t g : Nat} {q : (TypeId × Nat) × List V} (h : curA σ t g = some q) : σ.mem (.a t) = .arr g q.1.1 q.1.2 q.2 := by
  unfold curA at h
  split at h
  · rename_i g' e es xs hm
    split at h
    · rename_i hg; cases h; rw [hm, hg]
    · cases h
  · cases h
theorem boxN_some {t n : Nat} (h : boxN σ t = some n) : σ.mem (.b t) = .box n := by
  unfold boxN at h
  split at h
  · rename_i m hm; cases h; exact hm
  · cases h
theorem cellOf_some {t j : Nat} {l : L} (h : cellOf σ t j = some l) : σ.mem (.c t j) = .cell l := by
  unfold cellOf at h
  split at h
  · rename_i m hm; cases h; exact hm
  · cases h
theorem cellsOf_get {t : Nat} : ∀ {n j : Nat} {ls : List L}, cellsOf σ t j n = some ls → ls.length = n ∧ ∀ i l, ls[i]? = some l → σ.mem (.c t (j + i)) = .cell l
  | 0, j, ls, h => by simp only [cellsOf] at h; cases h; exact ⟨rfl, fun i l h => by simp at h⟩
  | n + 1, j, ls, h => by
    simp only [cellsOf] at h
    split at h
    · rename_i l hl
      obtain ⟨r, hr, rfl⟩ := Option.map_eq_some_iff.1 h
      obtain ⟨h1, h2⟩ := cellsOf_get hr
      refine ⟨by simp [h1], fun i l' hi => ?_⟩
      cases i with
      | zero => simp at hi; subst hi; exact cellOf_some hl
      | succ i => have := h2 i l' (by simpa using hi); rwa [Nat.add_right_comm, Nat.add_assoc] at this
    · cases h

/-- A current reference to an own array. -/
theorem RepD.arrVal (_ : RepD Γ X N ds σ a w G St own) {t g es : Nat} {e : TypeId} {xs : List V} (hm : σ.mem (.a t) = .arr g e es xs) {v : Value} (hv : repLv σ.mem G St (rdW w) (.arr t g) v) : v = G.av t := by
  simp only [repLv] at hv
  obtain ⟨g', e', es', xs', p, q, r0, r⟩ := hv
  rw [hm] at p; cases p
  exact r rfl

theorem take_get {cs : Array Value} {n i : Nat} {l : List Value} (h : cs.toList.take n = l) (hi : i < l.length) : cs[i]? = l[i]? := by
  subst h
  simp only [List.length_take, Array.length_toList] at hi
  rw [List.getElem?_take_of_lt (by omega)]; simp

theorem RepD.pubArr (h : RepD Γ X N ds σ a w G St own) {t g es : Nat} {e : TypeId} {xs : List V} (hm : σ.mem (.a t) = .arr g e es xs) {fz : List Nat} (hf : t ∈ fz) : rep (stF σ G St fz) (rdW w) (.sl xs) (G.av t) := by
  obtain ⟨h0, vs, ⟨hlen, ho⟩, hl, hx⟩ := h.arrs t g e es xs hm
  rcases ho with ⟨hv, hn⟩ | ⟨blk, cap, cur, hv, _, hb, hnc, _, _, hcur⟩
  · rw [hv]
    refine ⟨?_, rfl⟩
    simp only [repC]
    exact .inl ⟨List.eq_nil_of_length_eq_zero hn, rfl⟩
  · have hst : ∀ o, o < xs.length * es → stF σ G St fz blk o := fun o ho => .inr ⟨t, hf, .inr ⟨g, e, es, xs, hm, by rw [hv]; rfl, ho⟩⟩
    rw [hv]
    refine ⟨?_, rfl⟩
    simp only [repC]
    refine .inr ⟨blk, 0, cap, es, rfl, hnc, repE_get.2 fun i x hi => ?_⟩
    have hxi := hx i x hi
    have hil : i < xs.length := (List.getElem?_eq_some_iff.1 hi).1
    have hle : i * es + es ≤ xs.length * es := by rw [← Nat.succ_mul]; exact Nat.mul_le_mul_right _ hil
    refine ⟨(vs.drop (i * es)).take es, by simp; omega, cellsAt_get.2 fun j v hj => ?_, repC_mono (fun b o h => .inl h) (fun _ _ _ => rfl) _ _ hxi⟩
    have hj' : j < es := by
      have := (List.getElem?_eq_some_iff.1 hj).1
      simp at this; omega
    rw [List.getElem?_take_of_lt hj', List.getElem?_drop] at hj
    refine ⟨?_, hst _ (by omega)⟩
    have h3 : cur[i * es + j]? = some v := by rw [take_get hcur (by omega)]; exact hj
    simp only [rdW, World.cell?, hb, Nat.zero_add]
    simpa using h3

theorem RepD.pub0 (h : RepD Γ X N ds σ a w G St own) {l : L} {q : Pub} (hq : Vm.pub0 σ l = some q) {v : Value} (hv : repLv σ.mem G St (rdW w) l v) {fz : List Nat} (hf : ∀ t ∈ q.fz, t ∈ fz) :
    rep (stF σ G St fz) (rdW w) q.v v := by
  have hs : ∀ b o, St b o → stF σ G St fz b o := fun _ _ h => .inl h
  have hrd : ∀ b o, St b o → rdW w b o = rdW w b o := fun _ _ _ => rfl
  cases l with
  | p x => simp only [Vm.pub0, Option.some.injEq] at hq; subst hq; simp only [repLv] at hv; exact rep_mono hs hrd hv
  | nilS =>
    simp only [Vm.pub0, Option.some.injEq] at hq; subst hq; simp only [repLv] at hv; subst hv
    refine ⟨?_, rfl⟩; simp only [repC]; exact .inl ⟨trivial, rfl⟩
  | e0 =>
    simp only [Vm.pub0, Option.some.injEq] at hq; subst hq; simp only [repLv] at hv
    rcases hv with rfl | ⟨b, o, rfl⟩
    · refine ⟨?_, rfl⟩; simp only [repC]; exact .inl ⟨trivial, rfl⟩
    · refine ⟨?_, rfl⟩; simp only [repC]; exact .inr ⟨b, o, 0, 0, rfl, Nat.le_refl _, by simp only [repE]⟩
  | arr t g =>
    simp only [Vm.pub0] at hq
    obtain ⟨q', hc, rfl⟩ := Option.map_eq_some_iff.1 hq
    have hm := curA_some hc
    rw [h.arrVal hm hv]
    exact h.pubArr hm (hf t (by simp))
  | _ => simp [Vm.pub0] at hq

theorem pubWith_nil {f : L → Option Pub} : pubWith f [] = some ⟨[], [], []⟩ := rfl
theorem pubWith_cons {f : L → Option Pub} {l : L} {r : List L} {q : Pubs} (h : pubWith f (l :: r) = some q) : ∃ q1 q2, f l = some q1 ∧ pubWith f r = some q2 ∧ q = ⟨q1.v :: q2.vs, q1.rd ++ q2.rd, q1.fz ++ q2.fz⟩ := by
  simp only [pubWith] at h
  split at h
  · rename_i q1 h1
    obtain ⟨q2, h2, rfl⟩ := Option.map_eq_some_iff.1 h
    exact ⟨q1, q2, h1, h2, rfl⟩
  · cases h

theorem oneCell_of_plain {v : Value} (h : plainCell v = true) : v.oneCell' = true := by cases v <;> first | rfl | simp [plainCell] at h
theorem isAgg_of_one {v : Value} (h : v.oneCell' = true) : Value.isAgg v = false := by cases v <;> first | rfl | simp [Value.oneCell'] at h
theorem cells_of_one {v : Value} (h : v.oneCell' = true) : v.cells.toList = [v] := by cases v <;> first | rfl | simp [Value.oneCell'] at h

/-- What may lie in a cell is one cell. -/
theorem isCell_one {mem : Key → M} {rd : Nat → Nat → Option Value} {l : L} (hl : l.isCell = true) {v : Value} (hv : repLv mem G St rd l v) : v.oneCell' = true := by
  cases l with
  | p x =>
    simp only [repLv] at hv
    have hx : x.isAgg = false := by cases x <;> first | rfl | simp [L.isCell] at hl
    have ha : Value.isAgg v = false := hv.2.trans hx
    have hc : v.cells.toList = [v] := by cases v <;> first | rfl | simp [Value.isAgg] at ha
    exact oneCell_of_plain (repC_plain x _ hv.1 v (by rw [hc]; simp))
  | nilS => simp only [repLv] at hv; subst hv; rfl
  | e0 => simp only [repLv] at hv; rcases hv with rfl | ⟨b, o, rfl⟩ <;> rfl
  | own t j => simp only [repLv] at hv; rw [hv.1]; rfl
  | arr t g => simp only [repLv] at hv; obtain ⟨_, _, _, _, _, _, r, _⟩ := hv; exact r
  | _ => simp [L.isCell] at hl
theorem pub0ucell {l : L} {q : Pub} (hl : l.isCell = true) (hq : pub0 σ l = some q) : q.v.isAgg = false := by
  cases l with
  | p x => simp only [pub0, Option.some.injEq] at hq; subst hq; cases x <;> first | rfl | simp [L.isCell] at hl
  | nilS => simp only [pub0, Option.some.injEq] at hq; subst hq; rfl
  | e0 => simp only [pub0, Option.some.injEq] at hq; subst hq; rfl
  | arr t g => simp only [pub0] at hq; obtain ⟨q', _, rfl⟩ := Option.map_eq_some_iff.1 hq; rfl
  | _ => simp [pub0] at hq

/-- Cells that are handed on. -/
theorem RepD.pubCells (h : RepD Γ X N ds σ a w G St own) : ∀ {ls : List L} {q : Pubs} {vs : List Value}, ls.all L.isCell = true → pubWith (Vm.pub0 σ) ls = some q → repLs σ.mem G St (rdW w) ls vs → ∀ {fz : List Nat}, (∀ t ∈ q.fz, t ∈ fz) →
    repL (stF σ G St fz) (rdW w) q.vs vs
  | [], q, vs, _, hq, hv, fz, _ => by
    rw [pubWith_nil] at hq; cases hq; simp only [repLs] at hv; subst hv; simp only [repL]
  | l :: r, q, vs, hl, hq, hv, fz, hf => by
    obtain ⟨q1, q2, h1, h2, rfl⟩ := pubWith_cons hq
    simp only [List.all_cons, Bool.and_eq_true] at hl
    simp only [repLs] at hv
    obtain ⟨v, u, rfl, hv1, hv2⟩ := hv
    simp only [repL]
    have h3 := h.pub0 h1 hv1 (fz := fz) fun t ht => hf t (List.mem_append_left _ ht)
    refine ⟨v, u, rfl, ⟨pub0ucell hl.1 h1, ?_⟩, h.pubCells hl.2 h2 hv2 fun t ht => hf t (List.mem_append_right _ ht)⟩
    have := h3.1
    rwa [cells_of_one (isCell_one hl.1 hv1)] at this

theorem RepD.pub1 (h : RepD Γ X N ds σ a w G St own) {l : L} {q : Pub} (hq : Vm.pub1 σ l = some q) {v : Value} (hv : repLv σ.mem G St (rdW w) l v) {fz : List Nat} (hf : ∀ t ∈ q.fz, t ∈ fz) :
    rep (stF σ G St fz) (rdW w) q.v v := by
  cases l with
  | agg ls =>
    simp only [Vm.pub1] at hq
    split at hq
    · rename_i hl
      obtain ⟨q', hq', rfl⟩ := Option.map_eq_some_iff.1 hq
      simp only [repLv] at hv
      obtain ⟨vs, rfl, hv⟩ := hv
      exact ⟨by simp only [repC]; exact h.pubCells hl hq' hv hf, rfl⟩
    · cases hq
  | _ => exact h.pub0 (by simpa only [Vm.pub1] using hq) hv hf

/-- Whole values that are handed on. -/
theorem RepD.pubs (h : RepD Γ X N ds σ a w G St own) : ∀ {ls : List L} {q : Pubs} {vs : List Value}, pubWith (Vm.pub1 σ) ls = some q → repLs σ.mem G St (rdW w) ls vs → ∀ {fz : List Nat}, (∀ t ∈ q.fz, t ∈ fz) →
    repT (stF σ G St fz) (rdW w) q.vs vs
  | [], q, vs, hq, hv, fz, _ => by
    rw [pubWith_nil] at hq; cases hq; simp only [repLs] at hv; subst hv; simp only [repT]
  | l :: r, q, vs, hq, hv, fz, hf => by
    obtain ⟨q1, q2, h1, h2, rfl⟩ := pubWith_cons hq
    simp only [repLs] at hv
    obtain ⟨v, u, rfl, hv1, hv2⟩ := hv
    simp only [repT]
    exact ⟨v, u, rfl, h.pub1 h1 hv1 fun t ht => hf t (List.mem_append_left _ ht), h.pubs h2 hv2 fun t ht => hf t (List.mem_append_right _ ht)⟩

theorem RepD.boxVals (h : RepD Γ X N ds σ a w G St own) {t m : Nat} (hb : σ.mem (.b t) = .box m) {j n : Nat} {ls : List L} (hl : cellsOf σ t j n = some ls) (hj : j + n ≤ m) :
    ∃ cs e vs, w.heap[G.bk t]? = some (.cells cs e (0, 0)) ∧ cs.size = m ∧ vs.length = n ∧ (∀ i v, vs[i]? = some v → cs[j + i]? = some v ∧ v.oneCell' = true) ∧ repLs σ.mem G St (rdW w) ls vs := by
  obtain ⟨cs, e, p, q, r⟩ := h.boxes t m hb
  obtain ⟨hn, hc⟩ := cellsOf_get hl
  have hg : ∀ i v, ((cs.toList.drop j).take n)[i]? = some v → i < n ∧ cs[j + i]? = some v := fun i v hi => by
    have hin : i < n := by have := (List.getElem?_eq_some_iff.1 hi).1; simp at this; omega
    rw [List.getElem?_take_of_lt hin, List.getElem?_drop] at hi
    exact ⟨hin, by simpa using hi⟩
  refine ⟨cs, e, (cs.toList.drop j).take n, p, q, by simp; omega, fun i v hi => ?_, repLs_get.2 ⟨by simp; omega, fun i l v hli hvi => ?_⟩⟩
  · obtain ⟨h1, h2⟩ := hg i v hi
    obtain ⟨l, v', _, r2, _, r4⟩ := r (j + i) (by omega)
    rw [h2] at r2; cases r2
    exact ⟨h2, r4⟩
  · obtain ⟨h1, h2⟩ := hg i v hvi
    obtain ⟨l', v', r1, r2, r3, _⟩ := r (j + i) (by omega)
    rw [h2] at r2; cases r2
    rw [hc i l hli] at r1; cases r1
    exact r3

theorem RepD.pubO (h : RepD Γ X N ds σ a w G St own) {l : L} {q : Pub} (hq : Vm.pubO σ l = some q) {v : Value} (hv : repLv σ.mem G St (rdW w) l v) {fz : List Nat} (hf : ∀ t ∈ q.fz, t ∈ fz) :
    rep (stF σ G St fz) (rdW w) q.v v := by
  unfold Vm.pubO at hq
  split at hq
  · rename_i t
    obtain ⟨n, hn, hq⟩ := Option.bind_eq_some_iff.1 hq
    obtain ⟨ls, hls, hq⟩ := Option.bind_eq_some_iff.1 hq
    split at hq
    · rename_i hc
      obtain ⟨q', hq', rfl⟩ := Option.map_eq_some_iff.1 hq
      have hb := boxN_some hn
      obtain ⟨cs, e, vs, p1, p2, p3, p4, p5⟩ := h.boxVals hb hls (by omega)
      simp only [repLv] at hv
      rw [hv.1]
      refine ⟨?_, rfl⟩
      simp only [repC]
      refine ⟨G.bk t, 0, rfl, repA_at.2 ⟨vs, cellsAt_get.2 fun j v hj => ⟨?_, .inr ⟨t, hf t (by simp), .inl ⟨n, hb, rfl⟩⟩⟩, h.pubCells hc hq' p5 fun t ht => hf t (by simp [ht])⟩⟩
      have := (p4 j v hj).1
      simp only [rdW, World.cell?, p1, Nat.zero_add] at this ⊢
      simpa using this
    · cases hq
  · exact h.pub1 hq hv hf
theorem RepD.pubOs (h : RepD Γ X N ds σ a w G St own) : ∀ {ls : List L} {q : Pubs} {vs : List Value}, pubWith (Vm.pubO σ) ls = some q → repLs σ.mem G St (rdW w) ls vs → ∀ {fz : List Nat}, (∀ t ∈ q.fz, t ∈ fz) →
    repT (stF σ G St fz) (rdW w) q.vs vs
  | [], q, vs, hq, hv, fz, _ => by
    rw [pubWith_nil] at hq; cases hq; simp only [repLs] at hv; subst hv; simp only [repT]
  | l :: r, q, vs, hq, hv, fz, hf => by
    obtain ⟨q1, q2, h1, h2, rfl⟩ := pubWith_cons hq
    simp only [repLs] at hv
    obtain ⟨v, u, rfl, hv1, hv2⟩ := hv
    simp only [repT]
    exact ⟨v, u, rfl, h.pubO h1 hv1 fun t ht => hf t (List.mem_append_left _ ht), h.pubOs h2 hv2 fun t ht => hf t (List.mem_append_right _ ht)⟩
end Go.Vm
