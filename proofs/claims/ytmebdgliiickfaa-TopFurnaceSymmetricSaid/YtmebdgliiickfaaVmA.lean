import Derived.CallsIn
import Derived.Below
import Derived.Orders
set_option linter.all false
/- The values of the value machine, and what it is to read as one in a world. -/
namespace Go.Vm

/-- Pure values: a slice is the list of its elements, a struct or an array the list of its cells, 'ref' a pointer to cells that nobody writes any more. -/
inductive V where
  | b (x : Bool)
  | i (k : IntKind) (n : Int)
  | s (x : ByteArray)
  | sl (xs : List V)
  | agg (cs : List V)
  | fn (f : FuncId) (first caps : List V)
  | nilFn
  | ref (cs : List V)
  | nilPtr
  | nilI
  | ifc (t : TypeId) (v : V)

@[reducible] def V.n (x : Int) : V := .i .i64 x

def V.isAgg : V → Bool | .agg _ => true | _ => false
def V.cells : V → List V | .agg cs => cs | v => [v]
def Value.isAgg : Value → Bool | .agg _ => true | _ => false

/-- Cells that stand in memory, one behind the other, and that nobody writes. -/
def cellsAt (St : Nat → Nat → Prop) (rd : Nat → Nat → Option Value) (b : Nat) : Nat → List Value → Prop
  | _, [] => True
  | o, v :: r => (rd b o = some v ∧ St b o) ∧ cellsAt St rd b (o + 1) r

mutual
/-- The cells 'l' hold 'x'. -/
def repC (St : Nat → Nat → Prop) (rd : Nat → Nat → Option Value) : V → List Value → Prop
  | .b x, l => l = [.bool x]
  | .i k n, l => l = [.int k n]
  | .s x, l => l = [.string x]
  | .sl xs, l => (xs = [] ∧ l = [.slice none 0 0]) ∨ ∃ b o cap sz, l = [.slice (some ⟨b, o, none⟩) xs.length cap] ∧ xs.length ≤ cap ∧ repE St rd xs b sz o
  | .agg cs, l => repL St rd cs l
  | .fn f first caps, l => ∃ a1 a2, l = [.func (.func f) a1 a2] ∧ repT St rd first a1.toList ∧ repT St rd caps a2.toList
  | .nilFn, l => l = [.nilFunc]
  | .ref cs, l => ∃ b o, l = [.pointer (some ⟨b, o, none⟩)] ∧ repA St rd cs b o
  | .nilPtr, l => l = [.pointer none]
  | .nilI, l => l = [.nilIface]
  | .ifc t v, l => ∃ x, l = [.iface t x] ∧ repC St rd v x.cells.toList ∧ Value.isAgg x = v.isAgg
/-- Cells, each of which holds one value. -/
def repL (St : Nat → Nat → Prop) (rd : Nat → Nat → Option Value) : List V → List Value → Prop
  | [], l => l = []
  | c :: cs, l => ∃ v r, l = v :: r ∧ (c.isAgg = false ∧ repC St rd c [v]) ∧ repL St rd cs r
/-- Cells in memory. -/
def repA (St : Nat → Nat → Prop) (rd : Nat → Nat → Option Value) : List V → Nat → Nat → Prop
  | [], _, _ => True
  | c :: cs, b, o => (∃ v, (rd b o = some v ∧ St b o) ∧ c.isAgg = false ∧ repC St rd c [v]) ∧ repA St rd cs b (o + 1)
/-- Elements in memory, each of 'sz' cells. -/
def repE (St : Nat → Nat → Prop) (rd : Nat → Nat → Option Value) : List V → Nat → Nat → Nat → Prop
  | [], _, _, _ => True
  | x :: xs, b, sz, o => (∃ vs, vs.length = sz ∧ cellsAt St rd b o vs ∧ repC St rd x vs) ∧ repE St rd xs b sz (o + sz)
/-- Whole values. -/
def repT (St : Nat → Nat → Prop) (rd : Nat → Nat → Option Value) : List V → List Value → Prop
  | [], l => l = []
  | x :: xs, l => ∃ v r, l = v :: r ∧ (repC St rd x v.cells.toList ∧ Value.isAgg v = x.isAgg) ∧ repT St rd xs r
end

/-- A whole value. -/
def rep (St : Nat → Nat → Prop) (rd : Nat → Nat → Option Value) (x : V) (v : Value) : Prop := repC St rd x v.cells.toList ∧ Value.isAgg v = x.isAgg

section
variable {St St' : Nat → Nat → Prop} {rd rd' : Nat → Nat → Option Value}

theorem cellsAt_mono (h1 : ∀ b o, St b o → St' b o) (h2 : ∀ b o, St b o → rd' b o = rd b o) {b : Nat} : ∀ (o : Nat) (l : List Value), cellsAt St rd b o l → cellsAt St' rd' b o l
  | _, [], _ => trivial
  | o, _ :: r, ⟨⟨ha, hs⟩, hr⟩ => ⟨⟨(h2 b o hs).trans ha, h1 b o hs⟩, cellsAt_mono h1 h2 (o + 1) r hr⟩

mutual
theorem repC_mono (h1 : ∀ b o, St b o → St' b o) (h2 : ∀ b o, St b o → rd' b o = rd b o) : ∀ (x : V) (l : List Value), repC St rd x l → repC St' rd' x l
  | .b _, _, h => by simpa only [repC] using h
  | .i _ _, _, h => by simpa only [repC] using h
  | .s _, _, h => by simpa only [repC] using h
  | .sl xs, l, h => by
    simp only [repC] at h ⊢
    rcases h with h | ⟨b, o, cap, sz, e, hc, hE⟩
    · exact .inl h
    · exact .inr ⟨b, o, cap, sz, e, hc, repE_mono h1 h2 xs b sz o hE⟩
  | .agg cs, l, h => by simp only [repC] at h ⊢; exact repL_mono h1 h2 cs l h
  | .fn _ first caps, l, h => by
    simp only [repC] at h ⊢
    obtain ⟨a1, a2, e, p, q⟩ := h
    exact ⟨a1, a2, e, repT_mono h1 h2 first _ p, repT_mono h1 h2 caps _ q⟩
  | .nilFn, _, h => by simpa only [repC] using h
  | .ref cs, l, h => by
    simp only [repC] at h ⊢
    obtain ⟨b, o, e, p⟩ := h
    exact ⟨b, o, e, repA_mono h1 h2 cs b o p⟩
  | .nilPtr, _, h => by simpa only [repC] using h
  | .nilI, _, h => by simpa only [repC] using h
  | .ifc _ v, l, h => by
    simp only [repC] at h ⊢
    obtain ⟨x, e, p, q⟩ := h
    exact ⟨x, e, repC_mono h1 h2 v _ p, q⟩
theorem repL_mono (h1 : ∀ b o, St b o → St' b o) (h2 : ∀ b o, St b o → rd' b o = rd b o) : ∀ (x : List V) (l : List Value), repL St rd x l → repL St' rd' x l
  | [], _, h => by simpa only [repL] using h
  | c :: cs, l, h => by
    simp only [repL] at h ⊢
    obtain ⟨v, r, e, p, q⟩ := h
    exact ⟨v, r, e, ⟨p.1, repC_mono h1 h2 c _ p.2⟩, repL_mono h1 h2 cs r q⟩
theorem repA_mono (h1 : ∀ b o, St b o → St' b o) (h2 : ∀ b o, St b o → rd' b o = rd b o) : ∀ (x : List V) (b o : Nat), repA St rd x b o → repA St' rd' x b o
  | [], _, _, _ => by simp only [repA]
  | c :: cs, b, o, h => by
    simp only [repA] at h ⊢
    obtain ⟨⟨v, ⟨p, q⟩, r⟩, s⟩ := h
    exact ⟨⟨v, ⟨(h2 b o q).trans p, h1 b o q⟩, r.1, repC_mono h1 h2 c _ r.2⟩, repA_mono h1 h2 cs b (o + 1) s⟩
theorem repE_mono (h1 : ∀ b o, St b o → St' b o) (h2 : ∀ b o, St b o → rd' b o = rd b o) : ∀ (x : List V) (b sz o : Nat), repE St rd x b sz o → repE St' rd' x b sz o
  | [], _, _, _, _ => by simp only [repE]
  | c :: cs, b, sz, o, h => by
    simp only [repE] at h ⊢
    obtain ⟨⟨vs, p, q, r⟩, s⟩ := h
    exact ⟨⟨vs, p, cellsAt_mono h1 h2 o vs q, repC_mono h1 h2 c _ r⟩, repE_mono h1 h2 cs b sz (o + sz) s⟩
theorem repT_mono (h1 : ∀ b o, St b o → St' b o) (h2 : ∀ b o, St b o → rd' b o = rd b o) : ∀ (x : List V) (l : List Value), repT St rd x l → repT St' rd' x l
  | [], _, h => by simpa only [repT] using h
  | c :: cs, l, h => by
    simp only [repT] at h ⊢
    obtain ⟨v, r, e, ⟨p, p'⟩, q⟩ := h
    exact ⟨v, r, e, ⟨repC_mono h1 h2 c _ p, p'⟩, repT_mono h1 h2 cs r q⟩
end

theorem rep_mono (h1 : ∀ b o, St b o → St' b o) (h2 : ∀ b o, St b o → rd' b o = rd b o) {x : V} {v : Value} (h : rep St rd x v) : rep St' rd' x v :=
  ⟨repC_mono h1 h2 x _ h.1, h.2⟩

/-- The value of a cell: no struct, no tuple. -/
def plainCell : Value → Bool | .agg _ => false | .tuple _ => false | _ => true

mutual
theorem repC_len : ∀ (x : V) (l : List Value), repC St rd x l → l.length = x.cells.length
  | .b _, _, h => by simp only [repC] at h; rw [h]; rfl
  | .i _ _, _, h => by simp only [repC] at h; rw [h]; rfl
  | .s _, _, h => by simp only [repC] at h; rw [h]; rfl
  | .sl xs, l, h => by
    simp only [repC] at h
    rcases h with ⟨_, h⟩ | ⟨b, o, cap, sz, e, _, _⟩
    · rw [h]; rfl
    · rw [e]; rfl
  | .agg cs, l, h => by simp only [repC] at h; exact repL_len cs l h
  | .fn _ _ _, l, h => by
    simp only [repC] at h
    obtain ⟨a1, a2, e, p, q⟩ := h
    rw [e]; rfl
  | .nilFn, _, h => by simp only [repC] at h; rw [h]; rfl
  | .ref cs, l, h => by
    simp only [repC] at h
    obtain ⟨b, o, e, p⟩ := h
    rw [e]; rfl
  | .nilPtr, _, h => by simp only [repC] at h; rw [h]; rfl
  | .nilI, _, h => by simp only [repC] at h; rw [h]; rfl
  | .ifc _ v, l, h => by
    simp only [repC] at h
    obtain ⟨x, e, p, q⟩ := h
    rw [e]; rfl
theorem repL_len : ∀ (x : List V) (l : List Value), repL St rd x l → l.length = x.length
  | [], _, h => by simp only [repL] at h; rw [h]; rfl
  | c :: cs, l, h => by
    simp only [repL] at h
    obtain ⟨v, r, e, p, q⟩ := h
    rw [e, List.length_cons, List.length_cons, repL_len cs r q]
end

mutual
theorem repC_plain : ∀ (x : V) (l : List Value), repC St rd x l → ∀ v ∈ l, plainCell v = true
  | .b _, _, h => by simp only [repC] at h; rw [h]; simp [plainCell]
  | .i _ _, _, h => by simp only [repC] at h; rw [h]; simp [plainCell]
  | .s _, _, h => by simp only [repC] at h; rw [h]; simp [plainCell]
  | .sl xs, l, h => by
    simp only [repC] at h
    rcases h with ⟨_, h⟩ | ⟨b, o, cap, sz, e, _, _⟩
    · rw [h]; simp [plainCell]
    · rw [e]; simp [plainCell]
  | .agg cs, l, h => by simp only [repC] at h; exact repL_plain cs l h
  | .fn _ _ _, l, h => by
    simp only [repC] at h
    obtain ⟨a1, a2, e, p, q⟩ := h
    rw [e]; simp [plainCell]
  | .nilFn, _, h => by simp only [repC] at h; rw [h]; simp [plainCell]
  | .ref cs, l, h => by
    simp only [repC] at h
    obtain ⟨b, o, e, p⟩ := h
    rw [e]; simp [plainCell]
  | .nilPtr, _, h => by simp only [repC] at h; rw [h]; simp [plainCell]
  | .nilI, _, h => by simp only [repC] at h; rw [h]; simp [plainCell]
  | .ifc _ v, l, h => by
    simp only [repC] at h
    obtain ⟨x, e, p, q⟩ := h
    rw [e]; simp [plainCell]
theorem repL_plain : ∀ (x : List V) (l : List Value), repL St rd x l → ∀ v ∈ l, plainCell v = true
  | [], _, h => by simp only [repL] at h; rw [h]; simp
  | c :: cs, l, h => by
    simp only [repL] at h
    obtain ⟨v, r, e, p, q⟩ := h
    rw [e]
    intro u hu
    rcases List.mem_cons.1 hu with rfl | hu
    · exact repC_plain c _ p.2 u (by simp)
    · exact repL_plain cs r q u hu
end

theorem repL_append : ∀ {x y : List V} {l m : List Value}, repL St rd x l → repL St rd y m → repL St rd (x ++ y) (l ++ m)
  | [], _, _, _, h, k => by simp only [repL] at h; subst h; exact k
  | c :: cs, y, l, m, h, k => by
    simp only [repL] at h
    obtain ⟨v, r, e, p, q⟩ := h
    subst e
    simp only [List.cons_append, repL]
    exact ⟨v, r ++ m, rfl, p, repL_append q k⟩
theorem repL_split : ∀ {x y : List V} {l : List Value}, repL St rd (x ++ y) l → ∃ l1 l2, l = l1 ++ l2 ∧ repL St rd x l1 ∧ repL St rd y l2
  | [], _, l, h => ⟨[], l, rfl, by simp only [repL], h⟩
  | c :: cs, y, l, h => by
    simp only [List.cons_append, repL] at h
    obtain ⟨v, r, e, p, q⟩ := h
    obtain ⟨l1, l2, e', p', q'⟩ := repL_split q
    exact ⟨v :: l1, l2, by rw [e, e']; rfl, by simp only [repL]; exact ⟨v, l1, rfl, p, p'⟩, q'⟩
/-- The cells of a value, as cells. -/
theorem repC_cells : ∀ (x : V) (l : List Value), repC St rd x l ↔ repL St rd x.cells l
  | .agg cs, l => by simp only [repC, V.cells]
  | .b _, l | .i _ _, l | .s _, l | .sl _, l | .fn _ _ _, l | .nilFn, l | .ref _, l | .nilPtr, l | .nilI, l | .ifc _ _, l => by
    simp only [V.cells, repL]
    constructor
    · intro h
      have hl := repC_len _ _ h
      match l, hl, h with
      | [v], _, h => exact ⟨v, [], rfl, ⟨rfl, h⟩, rfl⟩
    · rintro ⟨v, r, e, p, q⟩
      subst q; subst e; exact p.2
theorem repA_at : ∀ {x : List V} {b o : Nat}, repA St rd x b o ↔ ∃ l, cellsAt St rd b o l ∧ repL St rd x l
  | [], b, o => by simp only [repA, true_iff]; exact ⟨[], trivial, by simp only [repL]⟩
  | c :: cs, b, o => by
    simp only [repA, repL]
    constructor
    · rintro ⟨⟨v, p, q⟩, r⟩
      obtain ⟨l, h1, h2⟩ := repA_at.1 r
      exact ⟨v :: l, ⟨p, h1⟩, v, l, rfl, q, h2⟩
    · rintro ⟨l, h1, v, r, rfl, q, h2⟩
      exact ⟨⟨v, h1.1, q⟩, repA_at.2 ⟨r, h1.2, h2⟩⟩
theorem cellsAt_get {b : Nat} : ∀ {o : Nat} {l : List Value}, cellsAt St rd b o l ↔ ∀ j v, l[j]? = some v → rd b (o + j) = some v ∧ St b (o + j)
  | o, [] => by simp [cellsAt]
  | o, v :: r => by
    simp only [cellsAt]
    constructor
    · rintro ⟨h1, h2⟩ j u hj
      cases j with
      | zero => simp at hj; subst hj; exact h1
      | succ j => have := cellsAt_get.1 h2 j u (by simpa using hj); rw [Nat.add_right_comm, Nat.add_assoc] at this; exact this
    · intro h
      exact ⟨by simpa using h 0 v rfl, cellsAt_get.2 fun j u hj => by have := h (j + 1) u (by simpa using hj); rw [Nat.add_right_comm, Nat.add_assoc]; exact this⟩
theorem repE_get {b sz : Nat} : ∀ {xs : List V} {o : Nat}, repE St rd xs b sz o ↔ ∀ i x, xs[i]? = some x → ∃ vs, vs.length = sz ∧ cellsAt St rd b (o + i * sz) vs ∧ repC St rd x vs
  | [], o => by simp [repE]
  | x :: xs, o => by
    simp only [repE]
    constructor
    · rintro ⟨h1, h2⟩ i u hi
      cases i with
      | zero => simp at hi; subst hi; simpa using h1
      | succ i => have := repE_get.1 h2 i u (by simpa using hi); rw [Nat.succ_mul, Nat.add_comm (i * sz) sz, ← Nat.add_assoc]; exact this
    · intro h
      exact ⟨by simpa using h 0 x rfl, repE_get.2 fun i u hi => by have := h (i + 1) u (by simpa using hi); rw [Nat.succ_mul, Nat.add_comm (i * sz) sz, ← Nat.add_assoc] at this; exact this⟩
end
end Go.Vm
