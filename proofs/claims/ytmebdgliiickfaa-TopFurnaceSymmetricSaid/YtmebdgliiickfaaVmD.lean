import Derived.Test.YtmebdgliiickfaaVmC
import Derived.Laws.MakeOwn
import Derived.Laws.CopyRow
import Derived.Laws.OwnMore
import Derived.Laws.IdiomCopy
set_option linter.all false
/- What it is for a frame of the model, in a world, to be as the value machine has it. -/
namespace Go.Vm

/-- The world steps on: of the blocks that were there only those in 'own' may have turned. -/
structure Stp (own : Nat → Prop) (w w' : World) : Prop where
  os : w'.os = w.os
  tape : w'.tape = w.tape
  output : w'.output = w.output
  size : w.heap.size ≤ w'.heap.size
  block : ∀ k, k < w.heap.size → ¬ own k → w'.heap[k]? = w.heap[k]?

theorem Stp.refl (own : Nat → Prop) (w : World) : Stp own w w := ⟨rfl, rfl, rfl, Nat.le_refl _, fun _ _ _ => rfl⟩
theorem Stp.of_below {own : Nat → Prop} {w w' : World} (h : RowKit.Below w.heap.size w w') : Stp own w w' := ⟨h.os, h.tape, h.output, h.size, fun k hk _ => h.block k hk⟩
theorem Stp.mono {own own' : Nat → Prop} {w w' : World} (h : Stp own w w') (ho : ∀ b, own b → own' b) : Stp own' w w' := ⟨h.os, h.tape, h.output, h.size, fun k hk hn => h.block k hk fun h => hn (ho k h)⟩
theorem Stp.alloc (own : Nat → Prop) (w : World) (o : Obj) : Stp own w (w.alloc o) := ⟨rfl, rfl, rfl, by simp, fun k hk _ => RowKit.Below.heap_alloc w o k hk⟩
theorem Stp.drew (own : Nat → Prop) (w : World) : Stp own w w.drew := ⟨rfl, rfl, rfl, Nat.le_refl _, fun _ _ _ => rfl⟩
theorem Stp.setRow {own : Nat → Prop} {w : World} {g : Nat} (cs : Array Value) (h : own g) : Stp own w (w.setRow g cs) :=
  ⟨rfl, rfl, rfl, by simp, fun k _ hn => setRow_other w g k cs fun e => hn (e ▸ h)⟩

/-- What the call's caller is owed. -/
structure Ctx where
  I : (Nat → Prop) → World → Prop
  St0 : Nat → Nat → Prop
  B : Nat
  step : ∀ own w w', I own w → Stp own w w' → I (fun b => own b ∨ (w.heap.size ≤ b ∧ b < w'.heap.size)) w'

structure GG where
  bk : Nat → Nat
  av : Nat → Value

def rdW (w : World) (b o : Nat) : Option Value := w.cell? ⟨b, o, none⟩

mutual
def repLv (mem : Key → M) (G : GG) (St : Nat → Nat → Prop) (rd : Nat → Nat → Option Value) : L → Value → Prop
  | .dead, _ => True
  | .p v, x => rep St rd v x
  | .nilS, x => x = .slice none 0 0
  | .e0, x => x = .slice none 0 0 ∨ ∃ b o, x = .slice (some ⟨b, o, none⟩) 0 0
  | .own t j, x => x = .pointer (some ⟨G.bk t, j, none⟩) ∧ ∃ n, mem (.b t) = .box n ∧ j < n
  | .arr t g, x => ∃ g' e es xs, mem (.a t) = .arr g' e es xs ∧ g ≤ g' ∧ x.oneCell' = true ∧ (g = g' → x = G.av t)
  | .ep t g i j, x => ∃ g' e es xs, mem (.a t) = .arr g' e es xs ∧ g ≤ g' ∧ (g = g' → ∃ blk, (G.av t).ownBlock = some blk ∧ i < xs.length ∧ x = .pointer (some ⟨blk, i * es + j, none⟩))
  | .agg ls, x => ∃ vs, x = .agg vs ∧ repLs mem G St rd ls vs.toList
  | .tup ls, x => ∃ vs, x = .tuple vs ∧ repLs mem G St rd ls vs.toList
def repLs (mem : Key → M) (G : GG) (St : Nat → Nat → Prop) (rd : Nat → Nat → Option Value) : List L → List Value → Prop
  | [], l => l = []
  | x :: xs, l => ∃ v r, l = v :: r ∧ repLv mem G St rd x v ∧ repLs mem G St rd xs r
end

/-- The elements of an own array, in its cells. -/
def repEs (St : Nat → Nat → Prop) (rd : Nat → Nat → Option Value) (es : Nat) (xs : List V) (vs : List Value) : Prop :=
  vs.length = xs.length * es ∧ ∀ i x, xs[i]? = some x → repC St rd x ((vs.drop (i * es)).take es)

def blkOf (mem : Key → M) (G : GG) (t : Nat) : Option Nat :=
  match mem (.b t) with
  | .box _ => some (G.bk t)
  | _ => match mem (.a t) with
    | .arr _ _ _ _ => (G.av t).ownBlock
    | _ => none

structure RepD (Γ : Nat → Option (List V)) (X : Ctx) (N : Nat) (ds : List Deferred) (σ : VS) (a : Act) (w : World) (G : GG) (St : Nat → Nat → Prop) (own : Nat → Prop) : Prop where
  size : a.tmps.size = N
  defs : a.defers = ds
  inv : X.I own w
  st0 : ∀ b o, X.St0 b o → St b o
  stn : ∀ b o, St b o → X.St0 b o ∨ X.B ≤ b
  stlt : ∀ b o, St b o → b < w.heap.size
  blt : X.B ≤ w.heap.size
  ownlt : ∀ b, own b → b < w.heap.size ∧ X.B ≤ b
  glob : ∀ g cs, Γ g = some cs → repA St (rdW w) cs g 0
  slots : ∀ t, repLv σ.mem G St (rdW w) (σ.get t) (a.tmps.getD t undef)
  boxes : ∀ t n, σ.mem (.b t) = .box n → ∃ cs e, w.heap[G.bk t]? = some (.cells cs e (0, 0)) ∧ cs.size = n ∧
    ∀ j, j < n → ∃ l v, σ.mem (.c t j) = .cell l ∧ cs[j]? = some v ∧ repLv σ.mem G St (rdW w) l v ∧ v.oneCell' = true
  arrs : ∀ t g e es xs, σ.mem (.a t) = .arr g e es xs → 0 < es ∧ ∃ vs, w.ownsRow 0 e es (G.av t) xs.length vs ∧ repEs St (rdW w) es xs vs
  disj : ∀ t t' b, blkOf σ.mem G t = some b → blkOf σ.mem G t' = some b → t = t'
  both : ∀ t n g e es xs, σ.mem (.b t) = .box n → σ.mem (.a t) = .arr g e es xs → False
  ownb : ∀ t b, blkOf σ.mem G t = some b → own b
  sbox : ∀ t n, σ.mem (.b t) = .box n → isNone (σ.mem (.f t)) = true → ∀ o, ¬ St (G.bk t) o
  sarr : ∀ t g e es xs b, σ.mem (.a t) = .arr g e es xs → (G.av t).ownBlock = some b →
    (isNone (σ.mem (.f t)) = true → ∀ o, ¬ St b o) ∧ ∀ o, xs.length * es ≤ o → ¬ St b o

/-- References that meant something mean the same, or are of an elder state. -/
structure Refs (mem : Key → M) (G : GG) (mem' : Key → M) (G' : GG) : Prop where
  b : ∀ t n, mem (.b t) = .box n → mem' (.b t) = .box n ∧ G'.bk t = G.bk t
  a : ∀ t g e es xs, mem (.a t) = .arr g e es xs → ∃ g' e' es' xs', mem' (.a t) = .arr g' e' es' xs' ∧ (g < g' ∨ (g = g' ∧ es' = es ∧ xs.length = xs'.length ∧ G'.av t = G.av t))

theorem Refs.refl (mem : Key → M) (G : GG) : Refs mem G mem G := ⟨fun _ _ h => ⟨h, rfl⟩, fun _ g e es xs h => ⟨g, e, es, xs, h, .inr ⟨rfl, rfl, rfl, rfl⟩⟩⟩

section
variable {mem mem' : Key → M} {G G' : GG} {St St' : Nat → Nat → Prop} {rd rd' : Nat → Nat → Option Value}
mutual
theorem repLv_mono (hr : Refs mem G mem' G') (h1 : ∀ b o, St b o → St' b o) (h2 : ∀ b o, St b o → rd' b o = rd b o) : ∀ (l : L) (v : Value), repLv mem G St rd l v → repLv mem' G' St' rd' l v
  | .dead, _, _ => by simp only [repLv]
  | .p v, x, h => by simp only [repLv] at h ⊢; exact rep_mono h1 h2 h
  | .nilS, x, h => by simpa only [repLv] using h
  | .e0, x, h => by simpa only [repLv] using h
  | .own t j, x, h => by
    simp only [repLv] at h ⊢
    obtain ⟨e, n, p, q⟩ := h
    obtain ⟨p1, p2⟩ := hr.b t n p
    exact ⟨by rw [p2]; exact e, n, p1, q⟩
  | .arr t g, x, h => by
    simp only [repLv] at h ⊢
    obtain ⟨g1, e, es, xs, p, q, r0, r⟩ := h
    obtain ⟨g2, e', es', xs', p', q'⟩ := hr.a t g1 e es xs p
    rcases q' with q' | ⟨q1, q2, q3, q4⟩
    · exact ⟨g2, e', es', xs', p', by omega, r0, fun h => by omega⟩
    · exact ⟨g2, e', es', xs', p', by omega, r0, fun h => by rw [q4]; exact r (by omega)⟩
  | .ep t g i j, x, h => by
    simp only [repLv] at h ⊢
    obtain ⟨g1, e, es, xs, p, q, r⟩ := h
    obtain ⟨g2, e', es', xs', p', q'⟩ := hr.a t g1 e es xs p
    rcases q' with q' | ⟨q1, q2, q3, q4⟩
    · exact ⟨g2, e', es', xs', p', by omega, fun h => by omega⟩
    · refine ⟨g2, e', es', xs', p', by omega, fun h => ?_⟩
      obtain ⟨blk, r1, r2, r3⟩ := r (by omega)
      exact ⟨blk, by rw [q4]; exact r1, by omega, by rw [q2]; exact r3⟩
  | .agg ls, x, h => by
    simp only [repLv] at h ⊢
    obtain ⟨vs, e, p⟩ := h
    exact ⟨vs, e, repLs_mono hr h1 h2 ls _ p⟩
  | .tup ls, x, h => by
    simp only [repLv] at h ⊢
    obtain ⟨vs, e, p⟩ := h
    exact ⟨vs, e, repLs_mono hr h1 h2 ls _ p⟩
theorem repLs_mono (hr : Refs mem G mem' G') (h1 : ∀ b o, St b o → St' b o) (h2 : ∀ b o, St b o → rd' b o = rd b o) : ∀ (l : List L) (v : List Value), repLs mem G St rd l v → repLs mem' G' St' rd' l v
  | [], _, h => by simpa only [repLs] using h
  | x :: xs, l, h => by
    simp only [repLs] at h ⊢
    obtain ⟨v, r, e, p, q⟩ := h
    exact ⟨v, r, e, repLv_mono hr h1 h2 x v p, repLs_mono hr h1 h2 xs r q⟩
end
theorem repEs_mono (h1 : ∀ b o, St b o → St' b o) (h2 : ∀ b o, St b o → rd' b o = rd b o) {es : Nat} {xs : List V} {vs : List Value} (h : repEs St rd es xs vs) : repEs St' rd' es xs vs :=
  ⟨h.1, fun i x hi => repC_mono h1 h2 _ _ (h.2 i x hi)⟩

theorem repLs_get : ∀ {ls : List L} {vs : List Value}, repLs mem G St rd ls vs ↔ ls.length = vs.length ∧ ∀ (i : Nat) (l : L) (v : Value), ls[i]? = some l → vs[i]? = some v → repLv mem G St rd l v
  | [], vs => by simp only [repLs]; constructor
                 · rintro rfl; simp
                 · rintro ⟨h, _⟩; exact List.eq_nil_of_length_eq_zero h.symm
  | l :: ls, vs => by
    simp only [repLs]
    constructor
    · rintro ⟨v, r, rfl, p, q⟩
      obtain ⟨h1, h2⟩ := repLs_get.1 q
      refine ⟨by simp [h1], fun i l' v' hl hv => ?_⟩
      cases i with
      | zero => simp at hl hv; subst hl; subst hv; exact p
      | succ i => exact h2 i l' v' (by simpa using hl) (by simpa using hv)
    · rintro ⟨h1, h2⟩
      match vs, h1, h2 with
      | v :: r, h1, h2 =>
        exact ⟨v, r, rfl, h2 0 l v rfl rfl, repLs_get.2 ⟨by simpa using h1, fun i l' v' hl hv => h2 (i + 1) l' v' (by simpa using hl) (by simpa using hv)⟩⟩
theorem repLs_length {ls : List L} {vs : List Value} (h : repLs mem G St rd ls vs) : ls.length = vs.length := (repLs_get.1 h).1
theorem repLs_append : ∀ {a b : List L} {x y : List Value}, repLs mem G St rd a x → repLs mem G St rd b y → repLs mem G St rd (a ++ b) (x ++ y)
  | [], _, _, _, h, k => by simp only [repLs] at h; subst h; exact k
  | l :: ls, b, x, y, h, k => by
    simp only [repLs] at h
    obtain ⟨v, r, rfl, p, q⟩ := h
    simp only [List.cons_append, repLs]
    exact ⟨v, r ++ y, rfl, p, repLs_append q k⟩
theorem repLs_take {ls : List L} {vs : List Value} (h : repLs mem G St rd ls vs) (n : Nat) : repLs mem G St rd (ls.take n) (vs.take n) := by
  obtain ⟨h1, h2⟩ := repLs_get.1 h
  refine repLs_get.2 ⟨by simp [h1], fun i l v hl hv => ?_⟩
  simp only [List.getElem?_take] at hl hv
  split at hl
  · rename_i hi; simp only [hi, if_true] at hv; exact h2 i l v hl hv
  · cases hl
theorem repLs_drop {ls : List L} {vs : List Value} (h : repLs mem G St rd ls vs) (n : Nat) : repLs mem G St rd (ls.drop n) (vs.drop n) := by
  obtain ⟨h1, h2⟩ := repLs_get.1 h
  refine repLs_get.2 ⟨by simp [h1], fun i l v hl hv => ?_⟩
  simp only [List.getElem?_drop] at hl hv
  exact h2 _ l v hl hv
end
theorem rdW_of_block {w w' : World} {b o : Nat} (h : w'.heap[b]? = w.heap[b]?) : rdW w' b o = rdW w b o := World.cell?_of_block (a := ⟨b, o, none⟩) h

theorem repLs_p {mem : Key → M} {G : GG} {St : Nat → Nat → Prop} {rd : Nat → Nat → Option Value} : ∀ {cs : List V} {l : List Value}, repL St rd cs l → repLs mem G St rd (cs.map .p) l
  | [], l, h => by simpa only [repL, List.map_nil, repLs] using h
  | c :: cs, l, h => by
    simp only [repL] at h
    obtain ⟨v, r, rfl, p, q⟩ := h
    simp only [List.map_cons, repLs, repLv]
    have hp := repC_plain c [v] p.2 v (by simp)
    refine ⟨v, r, rfl, ?_, repLs_p q⟩
    have hc : v.cells.toList = [v] := by cases v <;> first | rfl | (simp [plainCell] at hp)
    have ha : Value.isAgg v = false := by cases v <;> first | rfl | (simp [plainCell] at hp)
    exact ⟨by rw [hc]; exact p.2, by rw [ha, p.1]⟩
end Go.Vm
