import Derived.Test.YtmebdgliiickfaaVmR
set_option linter.all false
/- What an operation comes to hangs on its operands and on the places that it says it reads. -/
namespace Go.Vm
variable {Γ : Nat → Option (List V)} {σ σ' : VS} {P : Program} {K : Eff → Prop} {Sp : FuncId → List V → R → Prop}

/-- Alike at these places. -/
def Same (σ σ' : VS) (ks : List Key) : Prop := ∀ k ∈ ks, σ'.mem k = σ.mem k
theorem Same.left {a b : List Key} (h : Same σ σ' (a ++ b)) : Same σ σ' a := fun k hk => h k (List.mem_append_left _ hk)
theorem Same.right {a b : List Key} (h : Same σ σ' (a ++ b)) : Same σ σ' b := fun k hk => h k (List.mem_append_right _ hk)
theorem Same.one {k : Key} {b : List Key} (h : Same σ σ' (k :: b)) : σ'.mem k = σ.mem k := h k (by simp)
theorem Same.tl {k : Key} {b : List Key} (h : Same σ σ' (k :: b)) : Same σ σ' b := fun k hk => h k (List.mem_cons_of_mem _ hk)

theorem curA_loc {t g : Nat} (h : σ'.mem (.a t) = σ.mem (.a t)) : curA σ' t g = curA σ t g := by unfold curA; rw [h]
theorem boxN_loc {t : Nat} (h : σ'.mem (.b t) = σ.mem (.b t)) : boxN σ' t = boxN σ t := by unfold boxN; rw [h]
theorem fresh_loc {t : Nat} (h : σ'.mem (.b t) = σ.mem (.b t)) (h' : σ'.mem (.a t) = σ.mem (.a t)) : fresh σ' t = fresh σ t := by unfold fresh; rw [h, h']
theorem cellsOf_loc {t : Nat} : ∀ {n j : Nat}, Same σ σ' (keysC t j n) → cellsOf σ' t j n = cellsOf σ t j n
  | 0, _, _ => rfl
  | n + 1, j, h => by
    have h1 : cellOf σ' t j = cellOf σ t j := by unfold cellOf; rw [h.one]
    unfold cellsOf
    rw [h1, cellsOf_loc h.tl]
theorem pub0uloc {l : L} {q : Pub} (h : pub0 σ l = some q) (hs : Same σ σ' q.rd) : pub0 σ' l = some q := by
  cases l with
  | arr t g =>
    simp only [pub0] at h ⊢
    cases hc : curA σ t g with
    | none => simp [hc] at h
    | some x =>
      simp only [hc, Option.map_some, Option.some.injEq] at h
      subst h
      rw [curA_loc hs.one, hc]; rfl
  | _ => exact h
theorem pubWith_loc {f f' : L → Option Pub} (hf : ∀ l q, f l = some q → Same σ σ' q.rd → f' l = some q) : ∀ {ls : List L} {q : Pubs}, pubWith f ls = some q → Same σ σ' q.rd → pubWith f' ls = some q
  | [], q, h, _ => by simpa [pubWith] using h
  | l :: r, q, h, hs => by
    simp only [pubWith] at h ⊢
    cases h1 : f l with
    | none => simp [h1] at h
    | some p =>
      simp only [h1] at h
      cases h2 : pubWith f r with
      | none => simp [h2] at h
      | some ps =>
        simp only [h2, Option.map_some, Option.some.injEq] at h
        subst h
        rw [hf l p h1 hs.left, pubWith_loc hf h2 hs.right]; rfl
theorem pub1uloc {l : L} {q : Pub} (h : pub1 σ l = some q) (hs : Same σ σ' q.rd) : pub1 σ' l = some q := by
  cases l with
  | agg ls =>
    simp only [pub1] at h ⊢
    split at h
    · rename_i hc
      cases h2 : pubWith (pub0 σ) ls with
      | none => simp [h2] at h
      | some ps =>
        simp only [h2, Option.map_some, Option.some.injEq] at h
        subst h
        rw [if_pos hc, pubWith_loc (fun _ _ => pub0uloc) h2 hs]; rfl
    · cases h
  | _ => simp only [pub1] at h ⊢; exact pub0uloc h hs
theorem pubO_loc {l : L} {q : Pub} (h : pubO σ l = some q) (hs : Same σ σ' q.rd) : pubO σ' l = some q := by
  unfold pubO at h ⊢
  split at h
  · rename_i t
    cases hb : boxN σ t with
    | none => simp [hb] at h
    | some n =>
      simp only [hb, Option.bind_some] at h
      cases hc : cellsOf σ t 0 n with
      | none => simp [hc] at h
      | some ls =>
        simp only [hc, Option.bind_some] at h
        split at h
        · rename_i ha
          cases h2 : pubWith (pub0 σ) ls with
          | none => simp [h2] at h
          | some ps =>
            simp only [h2, Option.map_some, Option.some.injEq] at h
            subst h
            have hs : Same σ σ' (.b t :: (keysC t 0 n ++ ps.rd)) := by simpa using hs
            rw [boxN_loc hs.one, hb, Option.bind_some, cellsOf_loc hs.tl.left, hc, Option.bind_some, if_pos ha, pubWith_loc (fun _ _ => pub0uloc) h2 hs.tl.right]; rfl
        · cases h
  · exact pub1uloc h hs
theorem conts_loc {l : L} {x : List V × List Key} (h : conts σ l = some x) (hs : Same σ σ' x.2) : conts σ' l = some x := by
  cases l with
  | arr t g =>
    simp only [conts] at h ⊢
    cases hc : curA σ t g with
    | none => simp [hc] at h
    | some x =>
      simp only [hc, Option.map_some, Option.some.injEq] at h
      subst h
      rw [curA_loc hs.one, hc]; rfl
  | p v => cases v <;> exact h
  | _ => exact h
theorem lens_loc {l : L} {x : Nat × List Key} (h : lens σ l = some x) (hs : Same σ σ' x.2) : lens σ' l = some x := by
  unfold lens at h ⊢
  split at h
  · exact h
  · cases hc : conts σ l with
    | none => simp [hc] at h
    | some x =>
      simp only [hc, Option.map_some, Option.some.injEq] at h
      subst h
      rw [conts_loc hc hs]; rfl
theorem isNil_loc {l : L} {r : Bool} (h : isNil σ l = some r) (hs : Same σ σ' (nilRd l)) : isNil σ' l = some r := by
  cases l with
  | arr t g =>
    simp only [isNil] at h ⊢
    rw [curA_loc hs.one]; exact h
  | p v =>
    cases v with
    | sl xs => cases xs <;> exact h
    | _ => exact h
  | _ => exact h

/-- What is so of any world alike. -/
def Loc (F : VS → (Eff → Prop) → Prop) (σ : VS) : Prop := ∀ K, F σ K → ∃ e, K e ∧ ∀ σ', Same σ σ' e.rd → ∀ K' : Eff → Prop, K' e → F σ' K'

theorem newBox_loc {d : Nat} {ls : List L} : Loc (fun σ K => newBox σ d ls K) σ := fun K h => by
  obtain ⟨⟨h1, h2, h3⟩, hK⟩ := need_iff.1 h
  exact ⟨_, hK, fun σ' hs K' k => need_iff.2 ⟨⟨by rw [fresh_loc hs.one hs.tl.one]; exact h1, h2, h3⟩, k⟩⟩
theorem vload_loc {t : TypeId} {l : L} : Loc (fun σ K => vload P σ t l K) σ := fun K h => by
  simp only [vload] at h
  obtain ⟨n, hn, h⟩ := wantO_iff.1 h
  obtain ⟨ag, hag, h⟩ := wantO_iff.1 h
  split at h
  · obtain ⟨m, hm, h⟩ := wantO_iff.1 h
    obtain ⟨hlt, h⟩ := need_iff.1 h
    obtain ⟨ls, hls, h⟩ := wantO_iff.1 h
    obtain ⟨l', hl', hK⟩ := wantO_iff.1 h
    refine ⟨_, hK, fun σ' hs K' k => ?_⟩
    simp only [vload, hn, hag, wantO_some]
    rw [boxN_loc hs.one, hm, wantO_some, cellsOf_loc hs.tl, hls, wantO_some, hl', wantO_some]
    exact need_iff.2 ⟨hlt, k⟩
  · obtain ⟨⟨tt, xs⟩, hc, h⟩ := wantO_iff.1 h
    obtain ⟨x, hx, h⟩ := wantO_iff.1 h
    obtain ⟨cs, hcs, h⟩ := wantO_iff.1 h
    obtain ⟨v, hv, hK⟩ := wantO_iff.1 h
    refine ⟨_, hK, fun σ' hs K' k => ?_⟩
    simp only [vload, hn, hag, wantO_some]
    rw [curA_loc hs.one, hc, wantO_some, hx, wantO_some, hcs, wantO_some, hv, wantO_some]
    exact k
  · obtain ⟨cs, hcs, h⟩ := wantO_iff.1 h
    obtain ⟨v, hv, hK⟩ := wantO_iff.1 h
    refine ⟨_, hK, fun σ' hs K' k => ?_⟩
    simp only [vload, hn, hag, wantO_some]
    rw [hcs, wantO_some, hv, wantO_some]
    exact k
  · exact h.elim
theorem vstore_loc {t : TypeId} {l x : L} : Loc (fun σ K => vstore P σ t l x K) σ := fun K h => by
  simp only [vstore] at h
  obtain ⟨n, hn, h⟩ := wantO_iff.1 h
  split at h
  · obtain ⟨m, hm, h⟩ := wantO_iff.1 h
    obtain ⟨⟨h1, h2, h3, h4⟩, hK⟩ := need_iff.1 h
    refine ⟨_, hK, fun σ' hs K' k => ?_⟩
    simp only [vstore, hn, wantO_some]
    rw [boxN_loc hs.one, hm, wantO_some, hs.tl.one]
    exact need_iff.2 ⟨⟨h1, h2, h3, h4⟩, k⟩
  · obtain ⟨⟨⟨e, es⟩, xs⟩, hc, h⟩ := wantO_iff.1 h
    obtain ⟨y, hy, h⟩ := wantO_iff.1 h
    obtain ⟨q, hq, h⟩ := wantO_iff.1 h
    obtain ⟨⟨h1, h2, h3, h4⟩, h⟩ := need_iff.1 h
    obtain ⟨v, hv, hK⟩ := wantO_iff.1 h
    refine ⟨_, hK, fun σ' hs K' k => ?_⟩
    simp only [vstore, hn, wantO_some]
    rw [curA_loc hs.one, hc, wantO_some, hy, wantO_some, pub1uloc hq hs.tl.tl, wantO_some, hs.tl.one]
    refine need_iff.2 ⟨⟨h1, h2, h3, h4⟩, ?_⟩
    rw [hv, wantO_some]; exact k
  · exact h.elim
theorem vappend_loc {d : Nat} {ts : TypeId} {s x : L} : Loc (fun σ K => vappend P σ d ts s x K) σ := fun K h => by
  simp only [vappend] at h
  obtain ⟨e, he, h⟩ := wantO_iff.1 h
  obtain ⟨es, hes, h⟩ := wantO_iff.1 h
  obtain ⟨by', hby, h⟩ := wantO_iff.1 h
  obtain ⟨z, hz, h⟩ := wantO_iff.1 h
  obtain ⟨⟨ys, ks⟩, hc, h⟩ := wantO_iff.1 h
  obtain ⟨hn, h⟩ := need_iff.1 h
  split at h
  · obtain ⟨⟨⟨e', es'⟩, xs⟩, ha, h⟩ := wantO_iff.1 h
    obtain ⟨h1, hK⟩ := need_iff.1 h
    refine ⟨_, hK, fun σ' hs K' k => ?_⟩
    simp only [vappend, he, hes, hby, hz, wantO_some]
    rw [conts_loc hc hs.tl, wantO_some]
    refine need_iff.2 ⟨hn, ?_⟩
    simp only
    rw [curA_loc hs.one, ha, wantO_some]
    exact need_iff.2 ⟨h1, k⟩
  · obtain ⟨⟨h0, h1⟩, hK⟩ := need_iff.1 h
    refine ⟨_, hK, fun σ' hs K' k => ?_⟩
    simp only [vappend, he, hes, hby, hz, wantO_some]
    rw [conts_loc hc hs.tl.tl, wantO_some]
    exact need_iff.2 ⟨hn, need_iff.2 ⟨⟨by rw [fresh_loc hs.one hs.tl.one]; exact h0, h1⟩, k⟩⟩
  · by_cases hy : ys = []
    · have hK := h.1 hy
      refine ⟨_, hK, fun σ' hs K' k => ?_⟩
      simp only [vappend, he, hes, hby, hz, wantO_some]
      rw [conts_loc hc hs, wantO_some]
      exact need_iff.2 ⟨hn, fun _ => k, fun hny => (hny hy).elim⟩
    · obtain ⟨⟨h0, h1⟩, hK⟩ := need_iff.1 (h.2 hy)
      refine ⟨_, hK, fun σ' hs K' k => ?_⟩
      simp only [vappend, he, hes, hby, hz, wantO_some]
      rw [conts_loc hc hs.tl.tl, wantO_some]
      exact need_iff.2 ⟨hn, fun hy' => (hy hy').elim, fun _ => need_iff.2 ⟨⟨by rw [fresh_loc hs.one hs.tl.one]; exact h0, h1⟩, k⟩⟩
  · exact h.elim
theorem vindexAddr_loc {t : TypeId} {x i : L} : Loc (fun σ K => vindexAddr P σ t x i K) σ := fun K h => by
  simp only [vindexAddr] at h
  split at h
  · obtain ⟨e, he, h⟩ := wantO_iff.1 h
    obtain ⟨es, hes, h⟩ := wantO_iff.1 h
    obtain ⟨⟨⟨e', es'⟩, xs⟩, ha, h⟩ := wantO_iff.1 h
    obtain ⟨h1, hK⟩ := need_iff.1 h
    refine ⟨_, hK, fun σ' hs K' k => ?_⟩
    simp only [vindexAddr, he, hes, wantO_some]
    rw [curA_loc hs.one, ha, wantO_some]
    exact need_iff.2 ⟨h1, k⟩
  · obtain ⟨e, he, h⟩ := wantO_iff.1 h
    obtain ⟨es, hes, h⟩ := wantO_iff.1 h
    obtain ⟨x, h0, hx, h⟩ := h
    obtain ⟨h1, hK⟩ := need_iff.1 h
    refine ⟨_, hK, fun σ' hs K' k => ?_⟩
    simp only [vindexAddr, he, hes, wantO_some]
    exact ⟨x, h0, hx, need_iff.2 ⟨h1, k⟩⟩
  · obtain ⟨⟨len, e⟩, he, h⟩ := wantO_iff.1 h
    obtain ⟨es, hes, h⟩ := wantO_iff.1 h
    obtain ⟨m, hm, h⟩ := wantO_iff.1 h
    obtain ⟨h1, hK⟩ := need_iff.1 h
    refine ⟨_, hK, fun σ' hs K' k => ?_⟩
    simp only [vindexAddr, he, hes, wantO_some]
    rw [boxN_loc hs.one, hm, wantO_some]
    exact need_iff.2 ⟨h1, k⟩
  · obtain ⟨⟨len, e⟩, he, h⟩ := wantO_iff.1 h
    obtain ⟨es, hes, h⟩ := wantO_iff.1 h
    obtain ⟨h1, hK⟩ := need_iff.1 h
    refine ⟨_, hK, fun σ' hs K' k => ?_⟩
    simp only [vindexAddr, he, hes, wantO_some]
    exact need_iff.2 ⟨h1, k⟩
  · exact h.elim
theorem vslice_str {t : TypeId} {x : L} {lo hi mx : Option L} (hx : ∀ s, x ≠ .p (.s s)) : vslice P σ t x lo hi mx K = wantO (elq P t) fun e => wantO (szq P e) fun es => wantO (pub0 σ x) fun q => match q.v with
    | .sl xs =>
      match mx with
      | none => wantO (bnd 0 lo) fun a => wantO (bnd xs.length hi) fun b => need (0 ≤ a ∧ a ≤ b ∧ b ≤ xs.length ∧ ∀ y ∈ xs, y.cells.length = es) (K ⟨.p (.sl ((xs.take b.toNat).drop a.toNat)), q.rd, frzs q.fz⟩)
      | some m => wantO (bnd 0 lo) fun a => wantO (bnd 0 hi) fun b => wantO (bnd 0 (some m)) fun c => need (a = 0 ∧ b = 0 ∧ c = 0 ∧ hi.isSome = true) (K ⟨.e0, q.rd, []⟩)
    | _ => False := by
  cases x with
  | p v =>
    cases v with
    | s s => exact (hx s rfl).elim
    | _ => rfl
  | _ => rfl
theorem vslice_loc {t : TypeId} {x : L} {lo hi mx : Option L} : Loc (fun σ K => vslice P σ t x lo hi mx K) σ := fun K h => by
  by_cases hx : ∃ s, x = .p (.s s)
  · obtain ⟨s, rfl⟩ := hx
    simp only [vslice] at h
    obtain ⟨h0, h⟩ := need_iff.1 h
    obtain ⟨a, ha, h⟩ := wantO_iff.1 h
    obtain ⟨b, hb, h⟩ := wantO_iff.1 h
    obtain ⟨h1, hK⟩ := need_iff.1 h
    refine ⟨_, hK, fun σ' hs K' k => ?_⟩
    simp only [vslice, ha, hb, wantO_some]
    exact need_iff.2 ⟨h0, need_iff.2 ⟨h1, k⟩⟩
  · have hx : ∀ s, x ≠ .p (.s s) := fun s e => hx ⟨s, e⟩
    simp only [vslice_str hx] at h ⊢
    obtain ⟨e, he, h⟩ := wantO_iff.1 h
    obtain ⟨es, hes, h⟩ := wantO_iff.1 h
    obtain ⟨q, hq, h⟩ := wantO_iff.1 h
    split at h
    · rename_i xs hv
      split at h
      · obtain ⟨a, ha, h⟩ := wantO_iff.1 h
        obtain ⟨b, hb, h⟩ := wantO_iff.1 h
        obtain ⟨h1, hK⟩ := need_iff.1 h
        refine ⟨_, hK, fun σ' hs K' k => ?_⟩
        simp only [he, hes, wantO_some]
        rw [pub0uloc hq hs, wantO_some, hv]
        simp only [ha, hb, wantO_some]
        exact need_iff.2 ⟨h1, k⟩
      · obtain ⟨a, ha, h⟩ := wantO_iff.1 h
        obtain ⟨b, hb, h⟩ := wantO_iff.1 h
        obtain ⟨c, hc, h⟩ := wantO_iff.1 h
        obtain ⟨h1, hK⟩ := need_iff.1 h
        refine ⟨_, hK, fun σ' hs K' k => ?_⟩
        simp only [he, hes, wantO_some]
        rw [pub0uloc hq hs, wantO_some, hv]
        simp only [ha, hb, hc, wantO_some]
        exact need_iff.2 ⟨h1, k⟩
    · exact h.elim
theorem vmakeSlice_loc {d : Nat} {t : TypeId} {n c : L} : Loc (fun σ K => vmakeSlice P σ d t n c K) σ := fun K h => by
  simp only [vmakeSlice] at h
  obtain ⟨e, he, h⟩ := wantO_iff.1 h
  obtain ⟨es, hes, h⟩ := wantO_iff.1 h
  obtain ⟨by', hby, h⟩ := wantO_iff.1 h
  obtain ⟨z, hz, h⟩ := wantO_iff.1 h
  obtain ⟨ag, hag, h⟩ := wantO_iff.1 h
  obtain ⟨q, hq, h⟩ := wantO_iff.1 h
  obtain ⟨v, hv, h⟩ := wantO_iff.1 h
  have hz0 : ∀ (ls : List L) (σ1 : VS), (∀ l ∈ ls, ∀ t g, l ≠ .arr t g) → pubWith (pub0 σ1) ls = pubWith (pub0 σ) ls := fun ls σ1 => by
    induction ls with
    | nil => intro _; rfl
    | cons l r ih =>
      intro hl
      have h1 : pub0 σ1 l = pub0 σ l := by
        cases l with
        | arr t g => exact (hl _ (by simp) t g rfl).elim
        | _ => rfl
      simp only [pubWith, h1, ih fun l hm => hl l (List.mem_cons_of_mem _ hm)]
  have hzz : ∀ l ∈ z, ∀ t g, l ≠ L.arr t g := fun l hl t g e => by
    subst e
    unfold zeq at hz
    cases hi : ((P.info? e).bind (·.zero)) with
    | none => simp [hi] at hz
    | some v0 =>
      simp only [hi, Option.bind_some] at hz
      have : ∀ (vs : List Value) (ls : List L), vs.mapM scal = some ls → ∀ l ∈ ls, ∀ t g, l ≠ L.arr t g := by
        intro vs
        induction vs with
        | nil => intro ls h; simp at h; subst h; simp
        | cons v vs ih =>
          intro ls h
          simp only [List.mapM_cons, Option.bind_eq_bind, Option.bind_eq_some_iff, Option.pure_def, Option.some.injEq] at h
          obtain ⟨l1, h1, ls1, h2, rfl⟩ := h
          intro l hl t g e
          rcases List.mem_cons.1 hl with rfl | hl
          · subst e; unfold scal at h1; split at h1 <;> simp at h1
          · exact ih _ h2 l hl t g e
      exact this _ _ hz _ hl t g rfl
  split at h
  · obtain ⟨⟨h1, h2, h3, h4, h5, h6, h7⟩, hK⟩ := need_iff.1 h
    refine ⟨_, hK, fun σ' hs K' k => ?_⟩
    simp only [vmakeSlice, he, hes, hby, hz, hag, wantO_some]
    rw [hz0 z σ' hzz, hq, wantO_some, hv, wantO_some]
    exact need_iff.2 ⟨⟨h1, h2, h3, h4, h5, by rw [fresh_loc hs.one hs.tl.one]; exact h6, h7⟩, k⟩
  · exact h.elim
theorem vbuildSlice_loc {d : Nat} {t : TypeId} {n : Nat} {is : List Nat} {ls : List L} : Loc (fun σ K => vbuildSlice P σ d t n is ls K) σ := fun K h => by
  simp only [vbuildSlice] at h
  obtain ⟨e, he, h⟩ := wantO_iff.1 h
  obtain ⟨es, hes, h⟩ := wantO_iff.1 h
  obtain ⟨z, hz, h⟩ := wantO_iff.1 h
  obtain ⟨q, hq, h⟩ := wantO_iff.1 h
  obtain ⟨⟨h1, h2, h3, h4⟩, hK⟩ := need_iff.1 h
  refine ⟨_, hK, fun σ' hs K' k => ?_⟩
  simp only [vbuildSlice, he, hes, hz, wantO_some]
  rw [pubWith_loc (fun _ _ => pub1uloc) hq hs.tl.tl, wantO_some]
  exact need_iff.2 ⟨⟨h1, h2, by rw [fresh_loc hs.one hs.tl.one]; exact h3, h4⟩, k⟩
theorem vcallF_loc {d : Option Nat} {f : L} {args : List L} : Loc (fun σ K => vcallF Sp σ d f args K) σ := fun K h => by
  simp only [vcallF] at h
  split at h
  · obtain ⟨q, hq, h⟩ := wantO_iff.1 h
    obtain ⟨r, hr, h⟩ := h
    split at h
    · rename_i d
      obtain ⟨h1, hK⟩ := need_iff.1 h
      refine ⟨_, hK, fun σ' hs K' k => ?_⟩
      simp only [vcallF]
      rw [pubWith_loc (fun _ _ => pub1uloc) hq hs.right, wantO_some]
      refine ⟨r, hr, need_iff.2 ⟨?_, k⟩⟩
      rw [List.all_eq_true] at h1 ⊢
      intro x hx
      have h2 := h1 x hx
      split at h2
      · rename_i t ht
        have hm : ∀ k, k = Key.b t ∨ k = Key.a t → σ'.mem k = σ.mem k := fun k hk => hs.left k (List.mem_flatMap.2 ⟨x, hx, by rw [ht]; simpa using hk⟩)
        rw [fresh_loc (hm _ (.inl rfl)) (hm _ (.inr rfl))]; exact h2
      · rfl
    · obtain ⟨h1, hK⟩ := need_iff.1 h
      refine ⟨_, hK, fun σ' hs K' k => ?_⟩
      simp only [vcallF]
      rw [pubWith_loc (fun _ _ => pub1uloc) hq hs, wantO_some]
      exact ⟨r, hr, need_iff.2 ⟨h1, k⟩⟩
  · exact h.elim
theorem vmakeFunc_loc {f : FuncId} {first caps : List L} : Loc (fun σ K => vmakeFunc σ f first caps K) σ := fun K h => by
  simp only [vmakeFunc] at h
  obtain ⟨p, hp, h⟩ := wantO_iff.1 h
  obtain ⟨q, hq, hK⟩ := wantO_iff.1 h
  refine ⟨_, hK, fun σ' hs K' k => ?_⟩
  simp only [vmakeFunc]
  rw [pubWith_loc (fun _ _ => pub1uloc) hp hs.left, wantO_some, pubWith_loc (fun _ _ => pubO_loc) hq hs.right, wantO_some]
  exact k
theorem vfieldAddr_loc {t : TypeId} {x : L} {f : Nat} : Loc (fun σ K => vfieldAddr P σ t x f K) σ := fun K h => by
  simp only [vfieldAddr] at h
  obtain ⟨⟨t', off, n⟩, hf, h⟩ := wantO_iff.1 h
  split at h
  · obtain ⟨m, hm, h⟩ := wantO_iff.1 h
    obtain ⟨h1, hK⟩ := need_iff.1 h
    refine ⟨_, hK, fun σ' hs K' k => ?_⟩
    simp only [vfieldAddr, hf, wantO_some]
    rw [boxN_loc hs.one, hm, wantO_some]
    exact need_iff.2 ⟨h1, k⟩
  · obtain ⟨c, hc, hK⟩ := wantO_iff.1 h
    refine ⟨_, hK, fun σ' hs K' k => ?_⟩
    simp only [vfieldAddr, hf, wantO_some]
    rw [curA_loc hs.one, hc, wantO_some]
    exact k
  · exact ⟨_, h, fun σ' hs K' k => by simp only [vfieldAddr, hf, wantO_some]; exact k⟩
  · exact h.elim
theorem vlen_loc {t : TypeId} {x : L} : Loc (fun σ K => vlen σ P t x K) σ := fun K h => by
  unfold vlen at h
  split at h
  · rename_i ha
    exact ⟨_, h, fun σ' hs K' k => by unfold vlen; rw [ha]; exact k⟩
  · rename_i ha
    obtain ⟨h1, h⟩ := need_iff.1 h
    obtain ⟨⟨n, ks⟩, hl, hK⟩ := wantO_iff.1 h
    refine ⟨_, hK, fun σ' hs K' k => ?_⟩
    unfold vlen
    rw [ha]
    refine need_iff.2 ⟨h1, ?_⟩
    rw [lens_loc hl hs, wantO_some]; exact k
theorem vbin_loc {t : TypeId} {yc : Bool} {op : BinOp} {x y : L} : Loc (fun σ K => vbin P t yc σ op x y K) σ := fun K h => by
  unfold vbin at h
  split at h
  all_goals first
    | exact h.elim
    | (obtain ⟨_, he, h⟩ := wantO_iff.1 h
       obtain ⟨r, hr, hK⟩ := wantO_iff.1 h
       refine ⟨_, hK, fun σ' hs K' k => ?_⟩
       have hr' := isNil_loc hr hs
       unfold vbin
       split <;> simp_all [wantO])
    | (refine ⟨_, h, fun σ' hs K' k => ?_⟩; exact k)
    | (obtain ⟨h1, hK⟩ := need_iff.1 h
       refine ⟨_, hK, fun σ' hs K' k => ?_⟩; exact need_iff.2 ⟨h1, k⟩)
    | (obtain ⟨h1, h⟩ := need_iff.1 h
       obtain ⟨r, hr, hK⟩ := wantO_iff.1 h
       refine ⟨_, hK, fun σ' hs K' k => ?_⟩
       unfold vbin
       split <;> simp_all [wantO, need])
end Go.Vm
