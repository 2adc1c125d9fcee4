import Derived.Test.YtmebdgliiickfaaVmT
set_option linter.all false
/- Regions: in text order, and in whatever order is drawn. -/
namespace Go.Vm
variable {Γ : Nat → Option (List V)} {X : Ctx} {N : Nat} {ds : List Deferred} {σ σ' : VS} {a : Act} {w w' : World} {G G' : GG} {St St' : Nat → Nat → Prop} {own : Nat → Prop} {P : Program} {K : Eff → Prop} {Sp : FuncId → List V → R → Prop} {ops : Array Oper}

/-- A guard's word. -/
def vguard (l : L) (want : Bool) (A B : Prop) : Prop := match l with | .p (.b x) => (x = want → A) ∧ (x ≠ want → B) | .tup [] => B | _ => False
@[congr] theorem vguard_congr {l l' : L} {want : Bool} {A B : Prop} (h : l = l') : vguard l want A B = vguard l' want A B := by rw [h]
theorem vguard_same {x : Bool} {A B : Prop} : vguard (.p (.b x)) x A B = A := by simp [vguard]
theorem vguard_tt {A B : Prop} : vguard (.p (.b true)) true A B = A := vguard_same
theorem vguard_ff {A B : Prop} : vguard (.p (.b false)) false A B = A := vguard_same
theorem vguard_tf {A B : Prop} : vguard (.p (.b true)) false A B = B := by simp [vguard]
theorem vguard_ft {A B : Prop} : vguard (.p (.b false)) true A B = B := by simp [vguard]
theorem vguard_un {w : Bool} {A B : Prop} : vguard (.tup []) w A B = B := rfl
theorem vguard_iff {x want : Bool} {A B : Prop} (h1 : x = want → A) (h2 : x ≠ want → B) : vguard (.p (.b x)) want A B := ⟨h1, h2⟩

def gdst (ops : Array Oper) (j : Nat) : Option Tmp := (ops[j]?).bind (·.dst)
def noEff : Eff := ⟨.tup [], [], []⟩
def vstep (P : Program) (Γ : Nat → Option (List V)) (Sp : FuncId → List V → R → Prop) (ops : Array Oper) (σ : VS) (o : Oper) (K : Eff → Prop) : Prop :=
  match o.guard with
  | none => vop P Γ Sp σ o.dst o.op K
  | some (j, want) => wantO (gdst ops j) fun d => vguard (σ.get d) want (vop P Γ Sp σ o.dst o.op K) (K noEff)

theorem vstep_loc {o : Oper} (h : vstep P Γ Sp ops σ o K) : ∃ e, K e ∧ ∀ σ', (∀ t ∈ o.looksAt ops, σ'.get t = σ.get t) → Same σ σ' e.rd → ∀ K' : Eff → Prop, K' e → vstep P Γ Sp ops σ' o K' := by
  have hops : ∀ {σ' : VS}, (∀ t ∈ o.looksAt ops, σ'.get t = σ.get t) → ∀ t ∈ sees o.op, σ'.get t = σ.get t := fun h t ht => h t (List.mem_append_left _ ht)
  unfold vstep at h
  split at h
  · rename_i hg
    obtain ⟨e, hK, hd⟩ := vop_loc h
    exact ⟨e, hK, fun σ' ht hs K' k => by unfold vstep; rw [hg]; exact hd σ' (hops ht) hs K' k⟩
  · rename_i j want hg
    obtain ⟨d, hd, h2⟩ := wantO_iff.1 h
    have hgd : ∀ {σ' : VS}, (∀ t ∈ o.looksAt ops, σ'.get t = σ.get t) → σ'.get d = σ.get d := fun h => h d (List.mem_append_right _ (by unfold gdst at hd; simp [hg, hd]))
    unfold vguard at h2
    split at h2
    · rename_i x hx
      by_cases hxw : x = want
      · obtain ⟨e, hK, hdd⟩ := vop_loc (h2.1 hxw)
        refine ⟨e, hK, fun σ' ht hs K' k => ?_⟩
        unfold vstep
        rw [hg]
        simp only [hd, wantO_some]
        rw [hgd ht, hx]
        exact vguard_iff (fun _ => hdd σ' (hops ht) hs K' k) (fun hn => (hn hxw).elim)
      · refine ⟨_, h2.2 hxw, fun σ' ht hs K' k => ?_⟩
        unfold vstep
        rw [hg]
        simp only [hd, wantO_some]
        rw [hgd ht, hx]
        exact vguard_iff (fun hn => (hxw hn).elim) (fun _ => k)
    · rename_i hx
      refine ⟨_, h2, fun σ' ht hs K' k => ?_⟩
      unfold vstep
      rw [hg]
      simp only [hd, wantO_some]
      rw [hgd ht, hx]
      exact k
    · exact h2.elim

/-- One operation of a region, guard and all. -/
theorem step_sound (hSp : ∀ f args r, Sp f args r → Spec P Γ f args r) (h : Rp Γ X N ds σ a w) {o : Oper} (hd : ∀ d, o.dst = some d → d < N) (hk : vstep P Γ Sp ops σ o K) :
    ∃ e, K e ∧ ∀ (ro : Option Nat) (n : Nat) (next : Act → World → Prop) (Q : Exit → Act → World → Prop), (∀ a' w', Rp Γ X N ds (σ.apply o.dst e) a' w' → next a' w') →
      if Region.wanted o (yielded ops a.tmps) = true then o.wpIn (fr ro) n P a w next Q else (∀ f, o.about P w a.eval = some f → (fr ro).fn f) ∧ next (a.put o.dst undef) w := by
  obtain ⟨G, St, own, h⟩ := h
  unfold vstep at hk
  split at hk
  · rename_i hg
    obtain ⟨e, hK, hs⟩ := op_sound hSp h hd hk
    refine ⟨e, hK, fun ro n next Q hn => ?_⟩
    have : Region.wanted o (yielded ops a.tmps) = true := by unfold Region.wanted; rw [hg]
    rw [if_pos this]
    exact hs ro n next Q hn
  · rename_i j want hg
    obtain ⟨d, hdd, h2⟩ := wantO_iff.1 hk
    have hsl := h.slots d
    have hyd : yielded ops a.tmps j = match a.tmps[d]? with | some (.bool b) => some b | _ => none := by
      unfold yielded; unfold gdst at hdd; rw [hdd]; rfl
    have hskip : K noEff → Region.wanted o (yielded ops a.tmps) = false → ∃ e, K e ∧ ∀ (ro : Option Nat) (n : Nat) (next : Act → World → Prop) (Q : Exit → Act → World → Prop), (∀ a' w', Rp Γ X N ds (σ.apply o.dst e) a' w' → next a' w') →
      if Region.wanted o (yielded ops a.tmps) = true then o.wpIn (fr ro) n P a w next Q else (∀ f, o.about P w a.eval = some f → (fr ro).fn f) ∧ next (a.put o.dst undef) w := fun hK hw => by
      refine ⟨_, hK, fun ro n next Q hn => ?_⟩
      rw [hw, if_neg (by simp)]
      exact ⟨fun _ _ => trivial, hn _ _ ⟨G, St, own, h.putO hd (l := .tup []) (v := undef) (by simp [repLv, repLs, undef])⟩⟩
    unfold vguard at h2
    split at h2
    · rename_i x hx
      rw [hx] at hsl
      have hb := pbool hsl
      have hy : yielded ops a.tmps j = some x := by
        rw [hyd]
        cases ht : a.tmps[d]? with
        | none => simp [Array.getD_eq_getD_getElem?, ht, undef] at hb
        | some v =>
          simp [Array.getD_eq_getD_getElem?, ht] at hb
          subst hb; rfl
      by_cases hxw : x = want
      · obtain ⟨e, hK, hs⟩ := op_sound hSp h hd (h2.1 hxw)
        refine ⟨e, hK, fun ro n next Q hn => ?_⟩
        have : Region.wanted o (yielded ops a.tmps) = true := by unfold Region.wanted; rw [hg]; simp [hy, hxw]
        rw [if_pos this]
        exact hs ro n next Q hn
      · exact hskip (h2.2 hxw) (by unfold Region.wanted; rw [hg]; simp [hy, hxw])
    · rename_i hx
      rw [hx] at hsl
      simp only [repLv, repLs] at hsl
      obtain ⟨vs, h1, h3⟩ := hsl
      refine hskip h2 ?_
      unfold Region.wanted
      rw [hg]
      simp only [hyd]
      cases ht : a.tmps[d]? with
      | none => rfl
      | some v =>
        simp [Array.getD_eq_getD_getElem?, ht] at h1
        subst h1; rfl
    · exact h2.elim

/-- Operations in text order. -/
def vops (P : Program) (Γ : Nat → Option (List V)) (Sp : FuncId → List V → R → Prop) (ops : Array Oper) : List Oper → VS → (VS → Prop) → Prop
  | [], σ, K => K σ
  | o :: r, σ, K => vstep P Γ Sp ops σ o fun e => vops P Γ Sp ops r (σ.apply o.dst e) K

def dstsB (N : Nat) (ops : List Oper) : Bool := ops.all fun o => match o.dst with | some d => decide (d < N) | none => true
theorem dsts_spec {l : List Oper} (h : dstsB N l = true) : ∀ o ∈ l, ∀ d, o.dst = some d → d < N := fun o ho d hd => by
  have := List.all_eq_true.1 h o ho
  simpa [hd] using this

theorem list_sound (hSp : ∀ f args r, Sp f args r → Spec P Γ f args r) {ro : Option Nat} {n : Nat} {Q : Exit → Act → World → Prop} {C : VS → Prop} : ∀ {l : List Oper} {σ : VS} {a : Act} {w : World}, Rp Γ X N ds σ a w → (∀ o ∈ l, ∀ d, o.dst = some d → d < N) → vops P Γ Sp ops l σ C →
    (∀ σ' a' w', C σ' → Rp Γ X N ds σ' a' w' → Q .normal a' w') → wpListIn (fr ro) n P ops Q l a w
  | [], σ, a, w, h, _, hk, hQ => hQ _ _ _ hk h
  | o :: r, σ, a, w, h, hd, hk, hQ => by
    simp only [vops] at hk
    obtain ⟨e, hK, hs⟩ := step_sound (ops := ops) hSp h (hd o (by simp)) hk
    simp only [wpListIn]
    exact hs ro n _ Q fun a' w' h' => list_sound hSp h' (fun o ho => hd o (List.mem_cons_of_mem _ ho)) hK hQ

theorem region_sound (hSp : ∀ f args r, Sp f args r → Spec P Γ f args r) {ro : Option Nat} {n id : Nat} {Q : Exit → Act → World → Prop} {C : VS → Prop} {l : List Oper} (h : Rp Γ X N ds σ a w) (hd : dstsB N l = true) (hk : vops P Γ Sp l.toArray l σ C)
    (hQ : ∀ σ' a' w', C σ' → Rp Γ X N ds σ' a' w' → Q .normal a' w') : (Code.region id l.toArray false).wpIn (fr ro) n P Q a w :=
  wpIn_region_lit (list_sound hSp h (dsts_spec hd) hk hQ)

/-! Drawn. -/
def M.isFrz : M → Bool | .frz => true | _ => false
/-- The places that an operation read and wrote. -/
abbrev Tr := List Key × List (Key × Bool)
def Eff.tr (e : Eff) : Tr := (e.rd, e.wr.map fun x => (x.1, x.2.isFrz))
def kapart (x y : Tr) : Bool :=
  (x.2.all fun k => !y.1.contains k.1) && (y.2.all fun k => !x.1.contains k.1) && (x.2.all fun k => y.2.all fun k' => k.1 != k'.1 || (k.2 && k'.2))
def waitsOn (o : Oper) (i : Nat) : Bool := o.after.any fun e => Region.binds .any e && e.on == i
def indepOk (ops : Array Oper) (tr : List Tr) : Bool :=
  (List.range ops.size).all fun j => match ops[j]?, tr[j]? with
    | some oj, some tj => (oj.after.all fun e => !Region.binds .any e || decide (e.on < j)) && (List.range j).all fun i => match ops[i]?, tr[i]? with
      | some oi, some ti => waitsOn oj i || (oi.apart ops oj && kapart ti tj)
      | _, _ => false
    | _, _ => false
def vopsD (P : Program) (Γ : Nat → Option (List V)) (Sp : FuncId → List V → R → Prop) (ops : Array Oper) : List Oper → List Tr → VS → (VS → Prop) → Prop
  | [], tr, σ, K => need (indepOk ops tr.reverse = true) (K σ)
  | o :: r, tr, σ, K => vstep P Γ Sp ops σ o fun e => vopsD P Γ Sp ops r (e.tr :: tr) (σ.apply o.dst e) K

/-- What each operation comes to, wherever its operands and places are as in text order. -/
def Trace (P : Program) (Γ : Nat → Option (List V)) (Sp : FuncId → List V → R → Prop) (ops : Array Oper) : List Oper → List Eff → VS → Prop
  | [], [], _ => True
  | o :: r, e :: es, σ => (∀ σ', (∀ t ∈ o.looksAt ops, σ'.get t = σ.get t) → Same σ σ' e.rd → ∀ K' : Eff → Prop, K' e → vstep P Γ Sp ops σ' o K') ∧ Trace P Γ Sp ops r es (σ.apply o.dst e)
  | _, _, _ => False
/-- The operations in 'S' alone, in text order. -/
def runS : List Oper → List Eff → Nat → (Nat → Bool) → VS → VS
  | o :: r, e :: es, k, S, σ => runS r es (k + 1) S (if S k then σ.apply o.dst e else σ)
  | _, _, _, _, σ => σ

theorem vopsD_trace {C : VS → Prop} : ∀ {l : List Oper} {tr : List Tr} {σ : VS}, vopsD P Γ Sp ops l tr σ C → ∃ E, Trace P Γ Sp ops l E σ ∧ indepOk ops (tr.reverse ++ E.map Eff.tr) = true ∧ ∀ k, C (runS l E k (fun _ => true) σ)
  | [], tr, σ, h => by
    obtain ⟨h1, h2⟩ := need_iff.1 h
    exact ⟨[], trivial, by simpa using h1, fun _ => h2⟩
  | o :: r, tr, σ, h => by
    simp only [vopsD] at h
    obtain ⟨e, hK, hd⟩ := vstep_loc h
    obtain ⟨E, h1, h2, h3⟩ := vopsD_trace hK
    refine ⟨e :: E, ⟨hd, h1⟩, by simpa using h2, fun k => ?_⟩
    simp only [runS, if_true]
    exact h3 (k + 1)

theorem Trace.len : ∀ {l : List Oper} {E : List Eff} {σ : VS}, Trace P Γ Sp ops l E σ → l.length = E.length
  | [], [], _, _ => rfl
  | o :: r, e :: es, σ, h => by simp only [Trace] at h; simp [Trace.len h.2]

/-- An operation at its place: it does the same from every state that is alike at what it sees. -/
theorem Trace.at : ∀ {l : List Oper} {E : List Eff} {σ : VS} (k : Nat), Trace P Γ Sp ops l E σ → ∀ i o e, l[i]? = some o → E[i]? = some e →
    ∀ σ', (∀ t ∈ o.looksAt ops, σ'.get t = (runS l E k (fun m => decide (m < k + i)) σ).get t) → Same (runS l E k (fun m => decide (m < k + i)) σ) σ' e.rd → ∀ K' : Eff → Prop, K' e → vstep P Γ Sp ops σ' o K'
  | [], [], σ, k, _, i, o, e, h1, _ => by simp at h1
  | o :: r, e :: es, σ, k, h, i, o', e', h1, h2 => by
    simp only [Trace] at h
    have none : ∀ (r : List Oper) (es : List Eff) (k m : Nat) (σ : VS), m ≤ k → runS r es k (fun j => decide (j < m)) σ = σ := by
      intro r
      induction r with
      | nil => intro es k m σ _; cases es <;> rfl
      | cons o r ih =>
        intro es k m σ hm
        cases es with
        | nil => rfl
        | cons e es => simp only [runS]; rw [if_neg (by simp; omega)]; exact ih es (k + 1) m σ (by omega)
    cases i with
    | zero =>
      simp at h1 h2
      subst h1 h2
      intro σ' ht hs K' hk
      rw [none _ _ _ _ _ (by omega)] at ht hs
      exact h.1 σ' ht hs K' hk
    | succ i =>
      intro σ' ht hs K' hk
      refine Trace.at (k + 1) h.2 i o' e' (by simpa using h1) (by simpa using h2) σ' ?_ ?_ K' hk
      · have e0 : runS (o :: r) (e :: es) k (fun m => decide (m < k + (i + 1))) σ = runS r es (k + 1) (fun m => decide (m < k + 1 + i)) (σ.apply o.dst e) := by
          simp only [runS]
          rw [if_pos (by simp)]
          congr 1
          funext m
          congr 1
          simp; omega
        rw [← e0]; exact ht
      · have e0 : runS (o :: r) (e :: es) k (fun m => decide (m < k + (i + 1))) σ = runS r es (k + 1) (fun m => decide (m < k + 1 + i)) (σ.apply o.dst e) := by
          simp only [runS]
          rw [if_pos (by simp)]
          congr 1
          funext m
          congr 1
          simp; omega
        rw [← e0]; exact hs

theorem apply_get (σ : VS) (d : Option Nat) (e : Eff) (t : Nat) : (σ.apply d e).get t = if d = some t then e.val else σ.get t := by
  cases d with
  | none => simp [VS.apply, VS.putO, VS.upd]
  | some d => simp only [VS.apply, VS.putO, VS.put, VS.upd, Option.some.injEq]; by_cases h : t = d <;> simp [h, eq_comm]
theorem apply_mem (σ : VS) (d : Option Nat) (e : Eff) (k : Key) : (σ.apply d e).mem k = look k (σ.mem k) e.wr := by
  cases d <;> rfl
theorem look_not {k : Key} {m : M} : ∀ {wr : List (Key × M)}, (∀ x ∈ wr, x.1 ≠ k) → look k m wr = m
  | [], _ => rfl
  | (k', v) :: r, h => by
    simp only [look]
    rw [if_neg (fun e => h (k', v) (by simp) e.symm)]
    exact look_not fun x hx => h x (List.mem_cons_of_mem _ hx)

/-- A slot that the operations by which two choices differ do not write is alike. -/
theorem runS_get : ∀ {l : List Oper} {E : List Eff} {k : Nat} {S S' : Nat → Bool} {σ σ' : VS} {t : Nat}, σ.get t = σ'.get t → (∀ i o, l[i]? = some o → S (k + i) ≠ S' (k + i) → o.dst ≠ some t) → (runS l E k S σ).get t = (runS l E k S' σ').get t
  | [], E, k, S, S', σ, σ', t, h, _ => by cases E <;> exact h
  | o :: r, [], k, S, S', σ, σ', t, h, _ => h
  | o :: r, e :: es, k, S, S', σ, σ', t, h, hd => by
    simp only [runS]
    refine runS_get ?_ fun i o' hi hne => hd (i + 1) o' (by simpa using hi) (by rw [show k + (i + 1) = k + 1 + i by omega]; exact hne)
    by_cases hs : S k = S' k
    · rw [hs]; split
      · rw [apply_get, apply_get, h]
      · exact h
    · have := hd 0 o rfl hs
      split <;> split <;> simp only [apply_get, this, if_false, h]
theorem runS_mem : ∀ {l : List Oper} {E : List Eff} {k : Nat} {S S' : Nat → Bool} {σ σ' : VS} {κ : Key}, σ.mem κ = σ'.mem κ → (∀ (i : Nat) (e : Eff), E[i]? = some e → S (k + i) ≠ S' (k + i) → ∀ x ∈ e.wr, x.1 ≠ κ) → (runS l E k S σ).mem κ = (runS l E k S' σ').mem κ
  | [], E, k, S, S', σ, σ', κ, h, _ => by cases E <;> exact h
  | o :: r, [], k, S, S', σ, σ', κ, h, _ => h
  | o :: r, e :: es, k, S, S', σ, σ', κ, h, hd => by
    simp only [runS]
    refine runS_mem ?_ fun i e' hi hne => hd (i + 1) e' (by simpa using hi) (by rw [show k + (i + 1) = k + 1 + i by omega]; exact hne)
    by_cases hs : S k = S' k
    · rw [hs]; split
      · rw [apply_mem, apply_mem, h]
      · exact h
    · have := hd 0 e rfl hs
      split <;> split <;> simp only [apply_mem, look_not this, h]
end Go.Vm
