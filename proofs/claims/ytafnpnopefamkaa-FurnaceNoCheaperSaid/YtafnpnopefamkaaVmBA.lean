import Derived.CallsIn
import Derived.Below
import Derived.Orders
import Derived.Laws.MakeOwn
import Derived.Laws.CopyRow
import Derived.Laws.OwnMore
import Derived.Laws.IdiomCopy
import Derived.Laws.Entries
import Derived.Laws.Tables
import Derived.Laws.Small
import Derived.Laws.NewBlocks
import Derived.Laws.AppendOwn
import Derived.Laws.StructEq
import Derived.Laws.Cover3
import Derived.Laws.Concat
import Derived.WalkSpells
set_option linter.all false
namespace Go.Vm

inductive V where
  | b (x : Bool)
  | i (k : IntKind) (n : Int)
  | s (x : ByteArray)
  | sl (xs : List V)
  | agg (cs : List V)
  | fn (f : FuncId) (first caps : List V)
  | nilFn
  | yld (l : Nat)
  | ref (cs : List V)
  | nilPtr
  | nilI
  | ifc (t : TypeId) (v : V)

@[reducible] def V.n (x : Int) : V := .i .i64 x

def V.isAgg : V → Bool | .agg _ => true | _ => false
def V.cells : V → List V | .agg cs => cs | v => [v]
def Value.isAgg : Value → Bool | .agg _ => true | _ => false

def cellsAt (St : Nat → Nat → Prop) (rd : Nat → Nat → Option Value) (b : Nat) : Nat → List Value → Prop
  | _, [] => True
  | o, v :: r => (rd b o = some v ∧ St b o) ∧ cellsAt St rd b (o + 1) r

mutual
def repC (St : Nat → Nat → Prop) (rd : Nat → Nat → Option Value) : V → List Value → Prop
  | .b x, l => l = [.bool x]
  | .i k n, l => l = [.int k n]
  | .s x, l => l = [.string x]
  | .sl xs, l => (xs = [] ∧ ∃ a c, l = [.slice a 0 c]) ∨ ∃ b o cap sz, l = [.slice (some ⟨b, o, none⟩) xs.length cap] ∧ xs.length ≤ cap ∧ repE St rd xs b sz o
  | .agg cs, l => repL St rd cs l
  | .fn f first caps, l => ∃ a1 a2, l = [.func (.func f) a1 a2] ∧ repT St rd first a1.toList ∧ repT St rd caps a2.toList
  | .nilFn, l => l = [.nilFunc]
  | .yld y, l => l = [.func (.yield y) #[] #[]]
  | .ref cs, l => ∃ b o, l = [.pointer (some ⟨b, o, none⟩)] ∧ repA St rd cs b o
  | .nilPtr, l => l = [.pointer none]
  | .nilI, l => l = [.nilIface]
  | .ifc t v, l => ∃ x, l = [.iface t x] ∧ repC St rd v x.cells.toList ∧ Value.isAgg x = v.isAgg
def repL (St : Nat → Nat → Prop) (rd : Nat → Nat → Option Value) : List V → List Value → Prop
  | [], l => l = []
  | c :: cs, l => ∃ v r, l = v :: r ∧ (c.isAgg = false ∧ repC St rd c [v]) ∧ repL St rd cs r
def repA (St : Nat → Nat → Prop) (rd : Nat → Nat → Option Value) : List V → Nat → Nat → Prop
  | [], _, _ => True
  | c :: cs, b, o => (∃ v, (rd b o = some v ∧ St b o) ∧ c.isAgg = false ∧ repC St rd c [v]) ∧ repA St rd cs b (o + 1)
def repE (St : Nat → Nat → Prop) (rd : Nat → Nat → Option Value) : List V → Nat → Nat → Nat → Prop
  | [], _, _, _ => True
  | x :: xs, b, sz, o => (∃ vs, vs.length = sz ∧ cellsAt St rd b o vs ∧ repC St rd x vs) ∧ repE St rd xs b sz (o + sz)
def repT (St : Nat → Nat → Prop) (rd : Nat → Nat → Option Value) : List V → List Value → Prop
  | [], l => l = []
  | x :: xs, l => ∃ v r, l = v :: r ∧ (repC St rd x v.cells.toList ∧ Value.isAgg v = x.isAgg) ∧ repT St rd xs r
end

def rep (St : Nat → Nat → Prop) (rd : Nat → Nat → Option Value) (x : V) (v : Value) : Prop := repC St rd x v.cells.toList ∧ Value.isAgg v = x.isAgg

section
variable {St St' : Nat → Nat → Prop} {rd rd' : Nat → Nat → Option Value}

theorem cellsAt_mono (h1 : ∀ b o, St b o → St' b o) (h2 : ∀ b o, St b o → rd' b o = rd b o) {b : Nat} : ∀ (o : Nat) (l : List Value), cellsAt St rd b o l → cellsAt St' rd' b o l
  | _, [], _ => trivial
  | o, _ :: r, ⟨⟨ha, hs⟩, hr⟩ => ⟨⟨(h2 b o hs).trans ha, h1 b o hs⟩, cellsAt_mono h1 h2 (o + 1) r hr⟩

mutual
theorem repC_mono (h1 : ∀ b o, St b o → St' b o) (h2 : ∀ b o, St b o → rd' b o = rd b o) : ∀ (x : V) (l : List Value), repC St rd x l → repC St' rd' x l
  | .b _, _, h => by simpa only [repC] using h
  | .i _ _, _, h => by simpa only [repC] using h
  | .s _, _, h => by simpa only [repC] using h
  | .sl xs, l, h => by
    simp only [repC] at h ⊢
    rcases h with h | ⟨b, o, cap, sz, e, hc, hE⟩
    · exact .inl h
    · exact .inr ⟨b, o, cap, sz, e, hc, repE_mono h1 h2 xs b sz o hE⟩
  | .agg cs, l, h => by simp only [repC] at h ⊢; exact repL_mono h1 h2 cs l h
  | .fn _ first caps, l, h => by
    simp only [repC] at h ⊢
    obtain ⟨a1, a2, e, p, q⟩ := h
    exact ⟨a1, a2, e, repT_mono h1 h2 first _ p, repT_mono h1 h2 caps _ q⟩
  | .nilFn, _, h => by simpa only [repC] using h
  | .yld _, _, h => by simpa only [repC] using h
  | .ref cs, l, h => by
    simp only [repC] at h ⊢
    obtain ⟨b, o, e, p⟩ := h
    exact ⟨b, o, e, repA_mono h1 h2 cs b o p⟩
  | .nilPtr, _, h => by simpa only [repC] using h
  | .nilI, _, h => by simpa only [repC] using h
  | .ifc _ v, l, h => by
    simp only [repC] at h ⊢
    obtain ⟨x, e, p, q⟩ := h
    exact ⟨x, e, repC_mono h1 h2 v _ p, q⟩
theorem repL_mono (h1 : ∀ b o, St b o → St' b o) (h2 : ∀ b o, St b o → rd' b o = rd b o) : ∀ (x : List V) (l : List Value), repL St rd x l → repL St' rd' x l
  | [], _, h => by simpa only [repL] using h
  | c :: cs, l, h => by
    simp only [repL] at h ⊢
    obtain ⟨v, r, e, p, q⟩ := h
    exact ⟨v, r, e, ⟨p.1, repC_mono h1 h2 c _ p.2⟩, repL_mono h1 h2 cs r q⟩
theorem repA_mono (h1 : ∀ b o, St b o → St' b o) (h2 : ∀ b o, St b o → rd' b o = rd b o) : ∀ (x : List V) (b o : Nat), repA St rd x b o → repA St' rd' x b o
  | [], _, _, _ => by simp only [repA]
  | c :: cs, b, o, h => by
    simp only [repA] at h ⊢
    obtain ⟨⟨v, ⟨p, q⟩, r⟩, s⟩ := h
    exact ⟨⟨v, ⟨(h2 b o q).trans p, h1 b o q⟩, r.1, repC_mono h1 h2 c _ r.2⟩, repA_mono h1 h2 cs b (o + 1) s⟩
theorem repE_mono (h1 : ∀ b o, St b o → St' b o) (h2 : ∀ b o, St b o → rd' b o = rd b o) : ∀ (x : List V) (b sz o : Nat), repE St rd x b sz o → repE St' rd' x b sz o
  | [], _, _, _, _ => by simp only [repE]
  | c :: cs, b, sz, o, h => by
    simp only [repE] at h ⊢
    obtain ⟨⟨vs, p, q, r⟩, s⟩ := h
    exact ⟨⟨vs, p, cellsAt_mono h1 h2 o vs q, repC_mono h1 h2 c _ r⟩, repE_mono h1 h2 cs b sz (o + sz) s⟩
theorem repT_mono (h1 : ∀ b o, St b o → St' b o) (h2 : ∀ b o, St b o → rd' b o = rd b o) : ∀ (x : List V) (l : List Value), repT St rd x l → repT St' rd' x l
  | [], _, h => by simpa only [repT] using h
  | c :: cs, l, h => by
    simp only [repT] at h ⊢
    obtain ⟨v, r, e, ⟨p, p'⟩, q⟩ := h
    exact ⟨v, r, e, ⟨repC_mono h1 h2 c _ p, p'⟩, repT_mono h1 h2 cs r q⟩
end

theorem rep_mono (h1 : ∀ b o, St b o → St' b o) (h2 : ∀ b o, St b o → rd' b o = rd b o) {x : V} {v : Value} (h : rep St rd x v) : rep St' rd' x v :=
  ⟨repC_mono h1 h2 x _ h.1, h.2⟩

def plainCell : Value → Bool | .agg _ => false | .tuple _ => false | _ => true

mutual
theorem repC_len : ∀ (x : V) (l : List Value), repC St rd x l → l.length = x.cells.length
  | .b _, _, h => by simp only [repC] at h; rw [h]; rfl
  | .i _ _, _, h => by simp only [repC] at h; rw [h]; rfl
  | .s _, _, h => by simp only [repC] at h; rw [h]; rfl
  | .sl xs, l, h => by
    simp only [repC] at h
    rcases h with ⟨_, a, c, h⟩ | ⟨b, o, cap, sz, e, _, _⟩
    · rw [h]; rfl
    · rw [e]; rfl
  | .agg cs, l, h => by simp only [repC] at h; exact repL_len cs l h
  | .fn _ _ _, l, h => by
    simp only [repC] at h
    obtain ⟨a1, a2, e, p, q⟩ := h
    rw [e]; rfl
  | .nilFn, _, h => by simp only [repC] at h; rw [h]; rfl
  | .yld _, _, h => by simp only [repC] at h; rw [h]; rfl
  | .ref cs, l, h => by
    simp only [repC] at h
    obtain ⟨b, o, e, p⟩ := h
    rw [e]; rfl
  | .nilPtr, _, h => by simp only [repC] at h; rw [h]; rfl
  | .nilI, _, h => by simp only [repC] at h; rw [h]; rfl
  | .ifc _ v, l, h => by
    simp only [repC] at h
    obtain ⟨x, e, p, q⟩ := h
    rw [e]; rfl
theorem repL_len : ∀ (x : List V) (l : List Value), repL St rd x l → l.length = x.length
  | [], _, h => by simp only [repL] at h; rw [h]; rfl
  | c :: cs, l, h => by
    simp only [repL] at h
    obtain ⟨v, r, e, p, q⟩ := h
    rw [e, List.length_cons, List.length_cons, repL_len cs r q]
end

mutual
theorem repC_plain : ∀ (x : V) (l : List Value), repC St rd x l → ∀ v ∈ l, plainCell v = true
  | .b _, _, h => by simp only [repC] at h; rw [h]; simp [plainCell]
  | .i _ _, _, h => by simp only [repC] at h; rw [h]; simp [plainCell]
  | .s _, _, h => by simp only [repC] at h; rw [h]; simp [plainCell]
  | .sl xs, l, h => by
    simp only [repC] at h
    rcases h with ⟨_, a, c, h⟩ | ⟨b, o, cap, sz, e, _, _⟩
    · rw [h]; simp [plainCell]
    · rw [e]; simp [plainCell]
  | .agg cs, l, h => by simp only [repC] at h; exact repL_plain cs l h
  | .fn _ _ _, l, h => by
    simp only [repC] at h
    obtain ⟨a1, a2, e, p, q⟩ := h
    rw [e]; simp [plainCell]
  | .nilFn, _, h => by simp only [repC] at h; rw [h]; simp [plainCell]
  | .yld _, _, h => by simp only [repC] at h; rw [h]; simp [plainCell]
  | .ref cs, l, h => by
    simp only [repC] at h
    obtain ⟨b, o, e, p⟩ := h
    rw [e]; simp [plainCell]
  | .nilPtr, _, h => by simp only [repC] at h; rw [h]; simp [plainCell]
  | .nilI, _, h => by simp only [repC] at h; rw [h]; simp [plainCell]
  | .ifc _ v, l, h => by
    simp only [repC] at h
    obtain ⟨x, e, p, q⟩ := h
    rw [e]; simp [plainCell]
theorem repL_plain : ∀ (x : List V) (l : List Value), repL St rd x l → ∀ v ∈ l, plainCell v = true
  | [], _, h => by simp only [repL] at h; rw [h]; simp
  | c :: cs, l, h => by
    simp only [repL] at h
    obtain ⟨v, r, e, p, q⟩ := h
    rw [e]
    intro u hu
    rcases List.mem_cons.1 hu with rfl | hu
    · exact repC_plain c _ p.2 u (by simp)
    · exact repL_plain cs r q u hu
end

theorem repL_append : ∀ {x y : List V} {l m : List Value}, repL St rd x l → repL St rd y m → repL St rd (x ++ y) (l ++ m)
  | [], _, _, _, h, k => by simp only [repL] at h; subst h; exact k
  | c :: cs, y, l, m, h, k => by
    simp only [repL] at h
    obtain ⟨v, r, e, p, q⟩ := h
    subst e
    simp only [List.cons_append, repL]
    exact ⟨v, r ++ m, rfl, p, repL_append q k⟩
theorem repL_split : ∀ {x y : List V} {l : List Value}, repL St rd (x ++ y) l → ∃ l1 l2, l = l1 ++ l2 ∧ repL St rd x l1 ∧ repL St rd y l2
  | [], _, l, h => ⟨[], l, rfl, by simp only [repL], h⟩
  | c :: cs, y, l, h => by
    simp only [List.cons_append, repL] at h
    obtain ⟨v, r, e, p, q⟩ := h
    obtain ⟨l1, l2, e', p', q'⟩ := repL_split q
    exact ⟨v :: l1, l2, by rw [e, e']; rfl, by simp only [repL]; exact ⟨v, l1, rfl, p, p'⟩, q'⟩
theorem repC_cells : ∀ (x : V) (l : List Value), repC St rd x l ↔ repL St rd x.cells l
  | .agg cs, l => by simp only [repC, V.cells]
  | .b _, l | .i _ _, l | .s _, l | .sl _, l | .fn _ _ _, l | .nilFn, l | .yld _, l | .ref _, l | .nilPtr, l | .nilI, l | .ifc _ _, l => by
    simp only [V.cells, repL]
    constructor
    · intro h
      have hl := repC_len _ _ h
      match l, hl, h with
      | [v], _, h => exact ⟨v, [], rfl, ⟨rfl, h⟩, rfl⟩
    · rintro ⟨v, r, e, p, q⟩
      subst q; subst e; exact p.2
theorem repA_at : ∀ {x : List V} {b o : Nat}, repA St rd x b o ↔ ∃ l, cellsAt St rd b o l ∧ repL St rd x l
  | [], b, o => by simp only [repA, true_iff]; exact ⟨[], trivial, by simp only [repL]⟩
  | c :: cs, b, o => by
    simp only [repA, repL]
    constructor
    · rintro ⟨⟨v, p, q⟩, r⟩
      obtain ⟨l, h1, h2⟩ := repA_at.1 r
      exact ⟨v :: l, ⟨p, h1⟩, v, l, rfl, q, h2⟩
    · rintro ⟨l, h1, v, r, rfl, q, h2⟩
      exact ⟨⟨v, h1.1, q⟩, repA_at.2 ⟨r, h1.2, h2⟩⟩
theorem cellsAt_get {b : Nat} : ∀ {o : Nat} {l : List Value}, cellsAt St rd b o l ↔ ∀ j v, l[j]? = some v → rd b (o + j) = some v ∧ St b (o + j)
  | o, [] => by simp [cellsAt]
  | o, v :: r => by
    simp only [cellsAt]
    constructor
    · rintro ⟨h1, h2⟩ j u hj
      cases j with
      | zero => simp at hj; subst hj; exact h1
      | succ j => have := cellsAt_get.1 h2 j u (by simpa using hj); rw [Nat.add_right_comm, Nat.add_assoc] at this; exact this
    · intro h
      exact ⟨by simpa using h 0 v rfl, cellsAt_get.2 fun j u hj => by have := h (j + 1) u (by simpa using hj); rw [Nat.add_right_comm, Nat.add_assoc]; exact this⟩
theorem repE_get {b sz : Nat} : ∀ {xs : List V} {o : Nat}, repE St rd xs b sz o ↔ ∀ i x, xs[i]? = some x → ∃ vs, vs.length = sz ∧ cellsAt St rd b (o + i * sz) vs ∧ repC St rd x vs
  | [], o => by simp [repE]
  | x :: xs, o => by
    simp only [repE]
    constructor
    · rintro ⟨h1, h2⟩ i u hi
      cases i with
      | zero => simp at hi; subst hi; simpa using h1
      | succ i => have := repE_get.1 h2 i u (by simpa using hi); rw [Nat.succ_mul, Nat.add_comm (i * sz) sz, ← Nat.add_assoc]; exact this
    · intro h
      exact ⟨by simpa using h 0 x rfl, repE_get.2 fun i u hi => by have := h (i + 1) u (by simpa using hi); rw [Nat.succ_mul, Nat.add_comm (i * sz) sz, ← Nat.add_assoc] at this; exact this⟩
end
end Go.Vm

namespace Go.Vm

inductive L where
  | dead
  | p (v : V)
  | nilS
  | e0
  | own (t j : Nat)
  | arr (t g : Nat)
  | ep (t g i j : Nat)
  | agg (ls : List L)
  | tup (ls : List L)
  | bsl (t : Nat)
  | cel (t j : Nat)
  | em (nil : Bool)
  | win (t g a b : Nat)

inductive Key where
  | c (t j : Nat)
  | b (t : Nat)
  | f (t : Nat)
  | a (t : Nat)
  | y
  | v (t : Nat)
  deriving DecidableEq

inductive M where
  | none
  | cell (l : L)
  | box (n : Nat)
  | frz
  | arr (g : Nat) (e : TypeId) (es : Nat) (xs : List V)
  | cnt (i : Nat)
  | stop

structure VS where
  get : Nat → L
  mem : Key → M

structure Eff where
  val : L
  rd : List Key
  wr : List (Key × M)

def VS.put (σ : VS) (d : Nat) (l : L) : VS := { σ with get := fun t => if t = d then l else σ.get t }
def look (k : Key) (m : M) : List (Key × M) → M
  | [] => m
  | (k', v) :: r => if k = k' then v else look k m r
def VS.upd (σ : VS) (wr : List (Key × M)) : VS := { σ with mem := fun k => look k (σ.mem k) wr }
def VS.putO (σ : VS) : Option Nat → L → VS
  | some d, l => σ.put d l
  | Option.none, _ => σ
def VS.apply (σ : VS) (d : Option Nat) (e : Eff) : VS := (σ.upd e.wr).putO d e.val

def scal : Value → Option L
  | .bool x => some (.p (.b x))
  | .int k n => some (.p (.i k n))
  | .string s => some (.p (.s s))
  | .slice Option.none 0 0 => some .nilS
  | .pointer Option.none => some (.p .nilPtr)
  | .nilFunc => some (.p .nilFn)
  | .nilIface => some (.p .nilI)
  | _ => Option.none

def VS.ev (Γ : Nat → Option (List V)) (σ : VS) : Operand → L
  | .tmp t => σ.get t
  | .const v => (scal v).getD .dead
  | .global g => match Γ g with | some cs => .p (.ref cs) | Option.none => .dead
  | .func f => .p (.fn f [] [])

def L.cells : L → List L
  | .p v => v.cells.map .p
  | .agg ls => ls
  | l => [l]
def allP : List L → Option (List V)
  | [] => some []
  | .p v :: r => (allP r).map (v :: ·)
  | _ => Option.none
def mkAgg (ls : List L) : L := match allP ls with | some vs => .p (.agg vs) | Option.none => .agg ls
def L.isCell : L → Bool
  | .p (.agg _) => false
  | .p _ => true
  | .nilS => true
  | .e0 => true
  | .own _ _ => true
  | .arr _ _ => true
  | .bsl _ => true
  | .em _ => true
  | _ => false

def szq (P : Program) (t : TypeId) : Option Nat := (P.info? t).map (·.size)
def byq (P : Program) (t : TypeId) : Option Nat := (P.info? t).map (·.bytes)
def agq (P : Program) (t : TypeId) : Option Bool :=
  match P.underlying t with
  | some (.struct _) => some true
  | some (.array _ _) => some true
  | some _ => some false
  | Option.none => Option.none
def elq (P : Program) (t : TypeId) : Option TypeId := match P.underlying t with | some (.slice e) => some e | _ => Option.none
def flq (P : Program) (t : TypeId) (f : Nat) : Option (TypeId × Nat × Nat) :=
  match P.underlying t with
  | some (.struct fs) => match fs[f]? with
    | some x => match szq P x.type with
      | some (n + 1) => some (x.type, x.offset, n + 1)
      | _ => Option.none
    | Option.none => Option.none
  | _ => Option.none
def arq (P : Program) (t : TypeId) : Option (Nat × TypeId) := match P.underlying t with | some (.array n e) => some (n, e) | _ => Option.none
def zeq (P : Program) (t : TypeId) : Option (List L) := ((P.info? t).bind (·.zero)).bind fun v => v.cells.toList.mapM scal
def plq (P : Program) (t : TypeId) : Option (List (Nat × Nat)) :=
  match P.underlying t with
  | some (.struct fs) => fs.toList.mapM fun f => (szq P f.type).map fun n => (f.offset, n)
  | some (.array n e) => (szq P e).map fun s => (List.range n).map fun i => (i * s, s)
  | _ => Option.none
def isBool (P : Program) (t : TypeId) : Bool := match P.underlying t with | some .bool => true | _ => false
def isStr (P : Program) (t : TypeId) : Bool := match P.underlying t with | some .string => true | _ => false

def wantO {α : Type} (x : Option α) (K : α → Prop) : Prop := match x with | some a => K a | Option.none => False
@[congr] theorem wantO_congr {α : Type} {x x' : Option α} {K : α → Prop} (h : x = x') : wantO x K = wantO x' K := by rw [h]
theorem wantO_some {α : Type} (a : α) (K : α → Prop) : wantO (some a) K = K a := rfl
theorem wantO_iff {α : Type} {x : Option α} {K : α → Prop} : wantO x K ↔ ∃ a, x = some a ∧ K a := by cases x <;> simp [wantO]
def need (c : Prop) (K : Prop) : Prop := c ∧ K
@[congr] theorem need_congr {c c' K : Prop} (h : c = c') : need c K = need c' K := by rw [h]
theorem need_true {K : Prop} : need True K = K := by simp [need]
theorem need_iff {c K : Prop} : need c K ↔ c ∧ K := Iff.rfl
def vcase (c A B : Prop) : Prop := (c → A) ∧ (¬ c → B)
@[congr] theorem vcase_congr {c c' A B : Prop} (h : c = c') : vcase c A B = vcase c' A B := by rw [h]
theorem vcase_true {A B : Prop} : vcase True A B = A := by simp [vcase]
theorem vcase_false {A B : Prop} : vcase False A B = B := by simp [vcase]
def vbool (l : L) (A B : Prop) : Prop := match l with | .p (.b x) => (x = true → A) ∧ (x = false → B) | _ => False
@[congr] theorem vbool_congr {l l' : L} {A B : Prop} (h : l = l') : vbool l A B = vbool l' A B := by rw [h]
theorem vbool_true {A B : Prop} : vbool (.p (.b true)) A B = A := by simp [vbool]
theorem vbool_false {A B : Prop} : vbool (.p (.b false)) A B = B := by simp [vbool]
def atI (xs : List V) (n : Int) (K : V → Prop) : Prop := ∃ x, 0 ≤ n ∧ xs[n.toNat]? = some x ∧ K x
@[congr] theorem atI_congr {xs xs' : List V} {n n' : Int} {K : V → Prop} (h : xs = xs') (h' : n = n') : atI xs n K = atI xs' n' K := by rw [h, h']
theorem atI_intro {xs : List V} {n : Int} {K : V → Prop} (x : V) (h0 : 0 ≤ n) (h : xs[n.toNat]? = some x) (k : K x) : atI xs n K := ⟨x, h0, h, k⟩

structure Pub where
  v : V
  rd : List Key
  fz : List Nat

def curA (σ : VS) (t g : Nat) : Option ((TypeId × Nat) × List V) := match σ.mem (.a t) with | .arr g' e es xs => if g = g' then some ((e, es), xs) else Option.none | _ => Option.none
def boxN (σ : VS) (t : Nat) : Option Nat := match σ.mem (.b t) with | .box n => some n | _ => Option.none
def cellOf (σ : VS) (t j : Nat) : Option L := match σ.mem (.c t j) with | .cell l => some l | _ => Option.none
def cellsOf (σ : VS) (t : Nat) : Nat → Nat → Option (List L)
  | _, 0 => some []
  | j, n + 1 => match cellOf σ t j with | some l => (cellsOf σ t (j + 1) n).map (l :: ·) | Option.none => Option.none
def keysC (t : Nat) : Nat → Nat → List Key
  | _, 0 => []
  | j, n + 1 => .c t j :: keysC t (j + 1) n
def pubA (σ : VS) : L → Option Pub
  | .p v => some ⟨v, [], []⟩
  | .nilS => some ⟨.sl [], [], []⟩
  | .e0 => some ⟨.sl [], [], []⟩
  | .arr t g => (curA σ t g).map fun (_, xs) => ⟨.sl xs, [.a t], [t]⟩
  | .em _ => some ⟨.sl [], [], []⟩
  | _ => Option.none
structure Pubs where
  vs : List V
  rd : List Key
  fz : List Nat
def pubWith (f : L → Option Pub) : List L → Option Pubs
  | [] => some ⟨[], [], []⟩
  | l :: r => match f l with
    | some q => (pubWith f r).map fun qs => ⟨q.v :: qs.vs, q.rd ++ qs.rd, q.fz ++ qs.fz⟩
    | Option.none => Option.none
def pubB (σ : VS) (t : Nat) : Option Pub := (boxN σ t).bind fun n => (cellsOf σ t 0 n).bind fun ls => if ls.all L.isCell then (pubWith (pubA σ) ls).map fun q => ⟨.sl q.vs, .b t :: keysC t 0 n ++ q.rd, t :: q.fz⟩ else Option.none
def pub0 (σ : VS) : L → Option Pub
  | .p v => some ⟨v, [], []⟩
  | .nilS => some ⟨.sl [], [], []⟩
  | .e0 => some ⟨.sl [], [], []⟩
  | .arr t g => (curA σ t g).map fun (_, xs) => ⟨.sl xs, [.a t], [t]⟩
  | .bsl t => pubB σ t
  | .em _ => some ⟨.sl [], [], []⟩
  | _ => Option.none
def pub1 (σ : VS) : L → Option Pub
  | .agg ls => if ls.all L.isCell then (pubWith (pub0 σ) ls).map fun q => ⟨.agg q.vs, q.rd, q.fz⟩ else Option.none
  | l => pub0 σ l
def pubO (σ : VS) : L → Option Pub
  | .own t 0 => (boxN σ t).bind fun n => (cellsOf σ t 0 n).bind fun ls => if ls.all L.isCell then (pubWith (pub0 σ) ls).map fun q => ⟨.ref q.vs, .b t :: keysC t 0 n ++ q.rd, t :: q.fz⟩ else Option.none
  | l => pub1 σ l
def frzs (l : List Nat) : List (Key × M) := l.map fun t => (.f t, .frz)

def cellsW (t : Nat) : Nat → List L → List (Key × M)
  | _, [] => []
  | j, l :: r => (.c t j, .cell l) :: cellsW t (j + 1) r
def isNone : M → Bool | .none => true | _ => false
def fresh (σ : VS) (d : Nat) : Bool := isNone (σ.mem (.b d)) && isNone (σ.mem (.a d))
def newBox (σ : VS) (d : Nat) (ls : List L) (K : Eff → Prop) : Prop :=
  need (fresh σ d = true ∧ ls.all L.isCell = true ∧ ls ≠ []) (K ⟨.own d 0, [.b d, .a d], (.b d, .box ls.length) :: (.f d, .none) :: cellsW d 0 ls⟩)
@[congr] theorem newBox_congr {σ σ' : VS} {d d' : Nat} {ls ls' : List L} {K : Eff → Prop} (h : σ = σ') (h1 : d = d') (h2 : ls = ls') : newBox σ d ls K = newBox σ' d' ls' K := by rw [h, h1, h2]

def rs (d j : Nat) : Nat := 1000000 + j * 1024 + d
structure Row where
  fz : Bool
  g : Nat
  xs : List V
def tabR (d : Nat) (e : TypeId) (es : Nat) : Nat → List Row → List (Key × M)
  | _, [] => []
  | j, r :: l => (.c d j, .cell (.arr (rs d j) r.g)) :: (.a (rs d j), .arr r.g e es r.xs) :: (.f (rs d j), if r.fz then .frz else .none) :: tabR d e es (j + 1) l
def tabW (d : Nat) (e : TypeId) (es : Nat) (l : List Row) : List (Key × M) := (.b d, .box l.length) :: (.f d, .none) :: tabR d e es 0 l
def tabK (d : Nat) : Nat → Nat → List Key
  | _, 0 => []
  | j, n + 1 => .b (rs d j) :: .a (rs d j) :: tabK d (j + 1) n
def freshR (σ : VS) (d : Nat) : Nat → Nat → Bool
  | _, 0 => true
  | j, n + 1 => fresh σ (rs d j) && freshR σ d (j + 1) n
def row0 : Row := ⟨false, 0, []⟩
def genOf : M → Nat | .arr g _ _ _ => g + 1 | _ => 0
def vput (σ : VS) (s j : Nat) (x : L) (K : Eff → Prop) : Prop :=
  match x with
  | .arr t g => vcase (t = rs s j) (K ⟨.dead, [.b s, .f s], [(.c s j, .cell (.arr t g))]⟩)
      (wantO (curA σ t g) fun ((e, es), xs) => need (isNone (σ.mem (.f t)) = true ∧ isNone (σ.mem (.b (rs s j))) = true)
        (K ⟨.dead, [.b s, .f s, .a t, .f t, .b (rs s j), .a (rs s j)], [(.c s j, .cell (.arr (rs s j) (genOf (σ.mem (.a (rs s j)))))), (.a (rs s j), .arr (genOf (σ.mem (.a (rs s j)))) e es xs), (.f (rs s j), .none), (.a t, .arr (g + 1) e es [])]⟩))
  | .p (.sl xs) => K ⟨.dead, [.b s, .f s], [(.c s j, .cell (.p (.sl xs)))]⟩
  | .nilS => K ⟨.dead, [.b s, .f s], [(.c s j, .cell .nilS)]⟩
  | .e0 => K ⟨.dead, [.b s, .f s], [(.c s j, .cell .e0)]⟩
  | _ => False
@[congr] theorem vput_congr {σ σ' : VS} {s s' j j' : Nat} {x x' : L} {K : Eff → Prop} (h : σ = σ') (h1 : s = s') (h2 : j = j') (h3 : x = x') : vput σ s j x K = vput σ' s' j' x' K := by rw [h, h1, h2, h3]

def lfill (pl : List (Nat × Nat)) : List L → List (Nat × List L) → Option (List L)
  | z, [] => some z
  | z, (i, ls) :: r => match pl[i]? with
    | some (off, n) => if ls.length = n ∧ off + n ≤ z.length then lfill pl (z.take off ++ ls ++ z.drop (off + n)) r else Option.none
    | Option.none => Option.none

def unAgg (ag : Bool) (ls : List L) : Option L := if ag then some (mkAgg ls) else match ls with | [l] => some l | _ => Option.none
def unAggV (ag : Bool) (cs : List V) : Option V := if ag then some (.agg cs) else match cs with | [c] => some c | _ => Option.none
def sub (cs : List V) (j n : Nat) : Option (List V) := if j + n ≤ cs.length then some ((cs.drop j).take n) else Option.none

def vload (P : Program) (σ : VS) (t : TypeId) (l : L) (K : Eff → Prop) : Prop :=
  wantO (szq P t) fun n => wantO (agq P t) fun ag => match l with
    | .own s j => wantO (boxN σ s) fun m => need (j + n ≤ m) (wantO (cellsOf σ s j n) fun ls => wantO (unAgg ag ls) fun l => K ⟨l, .b s :: keysC s j n, []⟩)
    | .ep s g i j => wantO (curA σ s g) fun (_, xs) => wantO (xs[i]?) fun x => wantO (sub x.cells j n) fun cs => wantO (unAggV ag cs) fun v => K ⟨.p v, [.a s], []⟩
    | .p (.ref cs) => wantO (sub cs 0 n) fun cs => wantO (unAggV ag cs) fun v => K ⟨.p v, [], []⟩
    | .cel s j => wantO (boxN σ s) fun m => need (n = 1 ∧ ag = false ∧ j < m) (wantO (cellOf σ s j) fun l => K ⟨l, [.b s, .c s j], []⟩)
    | _ => False
@[congr] theorem vload_congr {P : Program} {σ σ' : VS} {t : TypeId} {l l' : L} {K : Eff → Prop} (h : σ = σ') (h1 : l = l') : vload P σ t l K = vload P σ' t l' K := by rw [h, h1]

def reCell (old : V) (cs : List V) : Option V := unAggV old.isAgg cs

def vstore (P : Program) (σ : VS) (t : TypeId) (l x : L) (K : Eff → Prop) : Prop :=
  wantO (szq P t) fun n => match l with
    | .own s j => wantO (boxN σ s) fun m => need (x.cells.length = n ∧ j + n ≤ m ∧ isNone (σ.mem (.f s)) = true ∧ x.cells.all L.isCell = true) (K ⟨.dead, [.b s, .f s], cellsW s j x.cells⟩)
    | .ep s g i j => wantO (curA σ s g) fun ((e, es), xs) => wantO (xs[i]?) fun y => wantO (pub1 σ x) fun q =>
        need (q.v.cells.length = n ∧ j + n ≤ y.cells.length ∧ isNone (σ.mem (.f s)) = true ∧ s ∉ q.fz) (wantO (reCell y (y.cells.take j ++ q.v.cells ++ y.cells.drop (j + n))) fun v =>
          K ⟨.dead, .a s :: .f s :: q.rd, (.a s, .arr g e es (xs.set i v)) :: frzs q.fz⟩)
    | .cel s j => wantO (boxN σ s) fun m => need (n = 1 ∧ j < m ∧ isNone (σ.mem (.f s)) = true) (vput σ s j x K)
    | _ => False
@[congr] theorem vstore_congr {P : Program} {σ σ' : VS} {t : TypeId} {l l' x x' : L} {K : Eff → Prop} (h : σ = σ') (h1 : l = l') (h2 : x = x') : vstore P σ t l x K = vstore P σ' t l' x' K := by rw [h, h1, h2]

def conts (σ : VS) : L → Option (List V × List Key)
  | .p (.sl xs) => some (xs, [])
  | .nilS => some ([], [])
  | .e0 => some ([], [])
  | .em _ => some ([], [])
  | .win t g a b => (curA σ t g).map fun x => ((x.2.take b).drop a, [.a t])
  | .arr t g => (curA σ t g).map fun (_, xs) => (xs, [.a t])
  | _ => Option.none

def maxBytes : Nat := 1099511627776

def vappend (P : Program) (σ : VS) (d : Nat) (ts : TypeId) (s x : L) (K : Eff → Prop) : Prop :=
  wantO (elq P ts) fun e => wantO (szq P e) fun es => wantO (byq P e) fun by' => wantO (zeq P e) fun z => wantO (conts σ x) fun (ys, ks) => need (z.length = es ∧ 0 < es) <|
    match s with
    | .arr t g => wantO (curA σ t g) fun ((e', es'), xs) => need (e' = e ∧ es' = es ∧ (∀ y ∈ ys, y.cells.length = es) ∧ (xs.length + ys.length) * (by' + 1) ≤ maxBytes) (K ⟨.arr t (g + 1), .a t :: ks, [(.a t, .arr (g + 1) e es (xs ++ ys))]⟩)
    | .nilS => need (fresh σ d = true ∧ (∀ y ∈ ys, y.cells.length = es) ∧ ys.length * (by' + 1) ≤ maxBytes) (K ⟨.arr d 0, .b d :: .a d :: ks, [(.a d, .arr 0 e es ys), (.f d, .none)]⟩)
    | .e0 => vcase (ys = []) (K ⟨.e0, ks, []⟩) (need (fresh σ d = true ∧ (∀ y ∈ ys, y.cells.length = es) ∧ ys.length * (by' + 1) ≤ maxBytes) (K ⟨.arr d 0, .b d :: .a d :: ks, [(.a d, .arr 0 e es ys), (.f d, .none)]⟩))
    | _ => False
@[congr] theorem vappend_congr {P : Program} {σ σ' : VS} {d : Nat} {ts : TypeId} {s s' x x' : L} {K : Eff → Prop} (h : σ = σ') (h1 : s = s') (h2 : x = x') : vappend P σ d ts s x K = vappend P σ' d ts s' x' K := by rw [h, h1, h2]

def eqvV : V → V → Option Bool
  | .i k a, .i k' b => if k = k' then some (a == b) else Option.none
  | .b a, .b b => some (a == b)
  | .s a, .s b => some (a.toList == b.toList)
  | _, _ => Option.none
def eqvs : List V → List V → Option Bool
  | [], [] => some true
  | a :: as, b :: bs => match eqvV a b, eqvs as bs with | some x, some y => some (x && y) | _, _ => Option.none
  | _, _ => Option.none
def isNil (σ : VS) : L → Option Bool
  | .nilS => some true
  | .em b => some b
  | .p (.sl (_ :: _)) => some false
  | .arr t g => match curA σ t g with | some (_, _ :: _) => some false | _ => Option.none
  | _ => Option.none
def isNilI : L → Option Bool
  | .p .nilI => some true
  | .p (.ifc _ _) => some false
  | _ => Option.none
def nilRd : L → List Key | .arr t _ => [.a t] | _ => []
def isIfc (P : Program) (t : TypeId) : Bool := match P.underlying t with | some (.interface _) => true | _ => false
def Operand.isConst : Operand → Bool | .const _ => true | _ => false

def flatFs (P : Program) (g : TypeId → Option (List Nat)) : List Field → Nat → Option (List Nat)
  | [], _ => some []
  | f :: fs, o => if f.name = "_" ∨ f.offset ≠ o then Option.none else match g f.type with
    | some ks => if szq P f.type = some ks.length then (flatFs P g fs (o + ks.length)).map (ks ++ ·) else Option.none
    | Option.none => Option.none
def flat (P : Program) : Nat → TypeId → Option (List Nat)
  | 0, _ => Option.none
  | d + 1, t => match P.underlying t with
    | some .bool => some [0]
    | some (.int _) => some [1]
    | some .string => some [2]
    | some (.struct fs) => if P.stoodInHeld t then Option.none else flatFs P (flat P d) fs.toList 0
    | _ => Option.none
def V.kd : V → Nat | .b _ => 0 | .i _ _ => 1 | .s _ => 2 | _ => 9
def cmpq (P : Program) (t : TypeId) : Option (List Nat) :=
  match P.underlying t with
  | some (.struct _) => if P.eqGuardType P.depth t then Option.none else flat P 9 t
  | some (.array n e) => if n = 2 then (if P.eqGuardType P.depth t then Option.none else match flat P 9 e with
    | some ks => if szq P e = some ks.length then some (ks ++ ks) else Option.none
    | Option.none => Option.none) else Option.none
  | _ => Option.none

def bitI (op : BinOp) (k : IntKind) (a b : Int) : Int :=
  match op with
  | .and => k.wrap (BitVec.ofInt k.bits a &&& BitVec.ofInt k.bits b).toNat
  | .or => k.wrap (BitVec.ofInt k.bits a ||| BitVec.ofInt k.bits b).toNat
  | .andNot => k.wrap (BitVec.ofInt k.bits a &&& ~~~BitVec.ofInt k.bits b).toNat
  | .xor => k.wrap (BitVec.ofInt k.bits a ^^^ BitVec.ofInt k.bits b).toNat
  | .shl => k.wrap (a * 2 ^ min b.toNat k.bits)
  | .shr => a.fdiv (2 ^ min b.toNat k.bits)
  | _ => 0

def vbin (P : Program) (t : TypeId) (yc : Bool) (σ : VS) (op : BinOp) (x y : L) (K : Eff → Prop) : Prop :=
  match op, x, y with
  | .add, .p (.i k a), .p (.i k' b) => need (k = k') (K ⟨.p (.i k (k.wrap (a + b))), [], []⟩)
  | .sub, .p (.i k a), .p (.i k' b) => need (k = k') (K ⟨.p (.i k (k.wrap (a - b))), [], []⟩)
  | .mul, .p (.i k a), .p (.i k' b) => need (k = k') (K ⟨.p (.i k (k.wrap (a * b))), [], []⟩)
  | .quo, .p (.i k a), .p (.i k' b) => need (k = k' ∧ b ≠ 0) (K ⟨.p (.i k (k.wrap (a.tdiv b))), [], []⟩)
  | .rem, .p (.i k a), .p (.i k' b) => need (k = k' ∧ b ≠ 0) (K ⟨.p (.i k (a.tmod b)), [], []⟩)
  | .eql, .p (.i k a), .p (.i k' b) => need (k = k') (K ⟨.p (.b (a == b)), [], []⟩)
  | .neq, .p (.i k a), .p (.i k' b) => need (k = k') (K ⟨.p (.b (a != b)), [], []⟩)
  | .lss, .p (.i k a), .p (.i k' b) => need (k = k') (K ⟨.p (.b (decide (a < b))), [], []⟩)
  | .leq, .p (.i k a), .p (.i k' b) => need (k = k') (K ⟨.p (.b (decide (a ≤ b))), [], []⟩)
  | .gtr, .p (.i k a), .p (.i k' b) => need (k = k') (K ⟨.p (.b (decide (a > b))), [], []⟩)
  | .geq, .p (.i k a), .p (.i k' b) => need (k = k') (K ⟨.p (.b (decide (a ≥ b))), [], []⟩)
  | .add, .p (.s a), .p (.s b) => need (a.size + b.size ≤ maxBytes) (K ⟨.p (.s (a ++ b)), [], []⟩)
  | .eql, .p (.s a), .p (.s b) => K ⟨.p (.b (a.toList == b.toList)), [], []⟩
  | .neq, .p (.s a), .p (.s b) => K ⟨.p (.b !(a.toList == b.toList)), [], []⟩
  | .eql, .p (.b a), .p (.b b) => need (isBool P t = true) (K ⟨.p (.b (a == b)), [], []⟩)
  | .neq, .p (.b a), .p (.b b) => need (isBool P t = true) (K ⟨.p (.b !(a == b)), [], []⟩)
  | .eql, .p (.agg a), .p (.agg b) => need (cmpq P t = some (a.map V.kd)) (wantO (eqvs a b) fun r => K ⟨.p (.b r), [], []⟩)
  | .neq, .p (.agg a), .p (.agg b) => need (cmpq P t = some (a.map V.kd)) (wantO (eqvs a b) fun r => K ⟨.p (.b !r), [], []⟩)
  | .eql, x, .nilS => wantO (elq P t) fun _ => wantO (isNil σ x) fun r => K ⟨.p (.b r), nilRd x, []⟩
  | .neq, x, .nilS => wantO (elq P t) fun _ => wantO (isNil σ x) fun r => K ⟨.p (.b !r), nilRd x, []⟩
  | .eql, x, .p .nilI => need (isIfc P t = true ∧ yc = true) (wantO (isNilI x) fun r => K ⟨.p (.b r), [], []⟩)
  | .neq, x, .p .nilI => need (isIfc P t = true ∧ yc = true) (wantO (isNilI x) fun r => K ⟨.p (.b !r), [], []⟩)
  | .and, .p (.i k a), .p (.i k' b) => need (k = k') (K ⟨.p (.i k (bitI .and k a b)), [], []⟩)
  | .or, .p (.i k a), .p (.i k' b) => need (k = k') (K ⟨.p (.i k (bitI .or k a b)), [], []⟩)
  | .andNot, .p (.i k a), .p (.i k' b) => need (k = k') (K ⟨.p (.i k (bitI .andNot k a b)), [], []⟩)
  | .shl, .p (.i k a), .p (.i _ b) => need (0 ≤ b) (K ⟨.p (.i k (bitI .shl k a b)), [], []⟩)
  | .shr, .p (.i k a), .p (.i _ b) => need (0 ≤ b) (K ⟨.p (.i k (bitI .shr k a b)), [], []⟩)
  | .xor, .p (.i k a), .p (.i k' b) => need (k = k') (K ⟨.p (.i k (bitI .xor k a b)), [], []⟩)
  | _, _, _ => False
@[congr] theorem vbin_congr {P : Program} {t : TypeId} {yc : Bool} {σ σ' : VS} {op : BinOp} {x x' y y' : L} {K : Eff → Prop} (h : σ = σ') (h1 : x = x') (h2 : y = y') : vbin P t yc σ op x y K = vbin P t yc σ' op x' y' K := by rw [h, h1, h2]

def oV (e : TypeId) (es : Nat) (xs : List V) : V := .ref [.agg (.i .i64 e :: .i .i64 es :: xs)]
def nilV : V := .ref [.agg []]
def V.isO : V → Bool | .ref [.agg _] => true | _ => false
def noOwn (l : List V) : Bool := l.all fun v => !v.isO

inductive RC where
  | p (v : V)
  | arr (e : TypeId) (es : Nat) (xs : List V)
  | nilS
  | e0
inductive R1 where
  | c (r : RC)
  | agg (rs : List RC)
inductive R where
  | one (r : R1)
  | tup (rs : List R1)
@[reducible] def R.v (x : V) : R := .one (.c (.p x))
@[reducible] def R.v2 (x y : V) : R := .tup [.c (.p x), .c (.p y)]
@[reducible] def R.v3 (x y z : V) : R := .tup [.c (.p x), .c (.p y), .c (.p z)]

def siteN (d i : Nat) : Nat := if i = 0 then d else 1000 + d * 8 + i
def RC.toL (d i : Nat) : RC → L × Nat × List (Key × M)
  | .p v => (.p v, i, [])
  | .nilS => (.nilS, i, [])
  | .e0 => (.e0, i, [])
  | .arr e es xs => (.arr (siteN d i) 0, i + 1, [(.a (siteN d i), .arr 0 e es xs), (.f (siteN d i), .none)])
def rcsToL (d : Nat) : Nat → List RC → List L × Nat × List (Key × M)
  | i, [] => ([], i, [])
  | i, r :: rs => ((r.toL d i).1 :: (rcsToL d (r.toL d i).2.1 rs).1, (rcsToL d (r.toL d i).2.1 rs).2.1, (rcsToL d (r.toL d i).2.1 rs).2.2 ++ (r.toL d i).2.2)
def R1.toL (d i : Nat) : R1 → L × Nat × List (Key × M)
  | .c r => r.toL d i
  | .agg rs => (mkAgg (rcsToL d i rs).1, (rcsToL d i rs).2.1, (rcsToL d i rs).2.2)
def r1sToL (d : Nat) : Nat → List R1 → List L × Nat × List (Key × M)
  | i, [] => ([], i, [])
  | i, r :: rs => ((r.toL d i).1 :: (r1sToL d (r.toL d i).2.1 rs).1, (r1sToL d (r.toL d i).2.1 rs).2.1, (r1sToL d (r.toL d i).2.1 rs).2.2 ++ (r.toL d i).2.2)
def R.toL (d : Nat) : R → L × List (Key × M)
  | .one r => ((r.toL d 0).1, (r.toL d 0).2.2)
  | .tup rs => (.tup (r1sToL d 0 rs).1, (r1sToL d 0 rs).2.2)
end Go.Vm

namespace Go.Vm

def vcall (Sp : FuncId → List V → R → Prop) (f : FuncId) (args : List V) (K : R → Prop) : Prop := ∃ r, Sp f args r ∧ K r
@[congr] theorem vcall_congr {Sp : FuncId → List V → R → Prop} {f : FuncId} {args args' : List V} {K : R → Prop} (h : args = args') : vcall Sp f args K = vcall Sp f args' K := by rw [h]
def lens (σ : VS) : L → Option (Nat × List Key)
  | .p (.s s) => some (s.size, [])
  | .bsl t => (boxN σ t).map fun n => (n, [.b t])
  | l => (conts σ l).map fun (xs, ks) => (xs.length, ks)

def maxI (k : IntKind) : Int → List L → Option V
  | a, [] => some (.i k a)
  | a, .p (.i k' b) :: r => if k' = k then maxI k (if b > a then b else a) r else none
  | _, _ => none
def minI (k : IntKind) : Int → List L → Option V
  | a, [] => some (.i k a)
  | a, .p (.i k' b) :: r => if k' = k then minI k (if b < a then b else a) r else none
  | _, _ => none

def vpart (P : Program) (t : TypeId) (l : L) (off : Nat) (K : Eff → Prop) : Prop :=
  wantO (szq P t) fun n => wantO (agq P t) fun ag => match l with
    | .p (.agg cs) => wantO (sub cs off n) fun cs => wantO (unAggV ag cs) fun v => K ⟨.p v, [], []⟩
    | .agg ls => need (off + n ≤ ls.length ∧ ((ls.drop off).take n).all L.isCell = true) (wantO (unAgg ag ((ls.drop off).take n)) fun l => K ⟨l, [], []⟩)
    | _ => False
@[congr] theorem vpart_congr {P : Program} {t : TypeId} {l l' : L} {off off' : Nat} {K : Eff → Prop} (h : l = l') (h2 : off = off') : vpart P t l off K = vpart P t l' off' K := by rw [h, h2]

def vindexAddr (P : Program) (σ : VS) (t : TypeId) (x i : L) (K : Eff → Prop) : Prop :=
  match x, i with
  | .arr s g, .p (.i _ n) => wantO (elq P t) fun e => wantO (szq P e) fun es => wantO (curA σ s g) fun ((_, es'), xs) => need (es' = es ∧ 0 ≤ n ∧ n < xs.length) (K ⟨.ep s g n.toNat 0, [.a s], []⟩)
  | .p (.sl xs), .p (.i _ n) => wantO (elq P t) fun e => wantO (szq P e) fun es => atI xs n fun x => need (x.cells.length = es) (K ⟨.p (.ref x.cells), [], []⟩)
  | .own s j, .p (.i _ n) => wantO (arq P t) fun (len, e) => wantO (szq P e) fun es => wantO (boxN σ s) fun m => need (0 ≤ n ∧ n < len ∧ j + len * es ≤ m) (K ⟨.own s (j + n.toNat * es), [.b s], []⟩)
  | .p (.ref cs), .p (.i _ n) => wantO (arq P t) fun (len, e) => wantO (szq P e) fun es => need (0 ≤ n ∧ n < len ∧ len * es ≤ cs.length) (K ⟨.p (.ref (cs.drop (n.toNat * es))), [], []⟩)
  | .bsl s, .p (.i _ n) => wantO (elq P t) fun e => wantO (szq P e) fun es => wantO (boxN σ s) fun m => need (es = 1 ∧ 0 ≤ n ∧ n < m) (K ⟨.cel s n.toNat, [.b s], []⟩)
  | _, _ => False
@[congr] theorem vindexAddr_congr {P : Program} {σ σ' : VS} {t : TypeId} {x x' i i' : L} {K : Eff → Prop} (h : σ = σ') (h1 : x = x') (h2 : i = i') : vindexAddr P σ t x i K = vindexAddr P σ' t x' i' K := by rw [h, h1, h2]

def vindex (P : Program) (t : TypeId) (x i : L) (K : Eff → Prop) : Prop :=
  match x, i with
  | .p (.s s), .p (.i _ n) => need (isStr P t = true ∧ 0 ≤ n ∧ n < s.size) (K ⟨.p (.i .u8 (s[n.toNat]!).toNat), [], []⟩)
  | l, .p (.i _ n) => wantO (arq P t) fun (len, e) => wantO (szq P e) fun es => need (0 ≤ n ∧ n < len) (vpart P e l (n.toNat * es) K)
  | _, _ => False
@[congr] theorem vindex_congr {P : Program} {t : TypeId} {x x' i i' : L} {K : Eff → Prop} (h1 : x = x') (h2 : i = i') : vindex P t x i K = vindex P t x' i' K := by rw [h1, h2]

def bnd (d : Nat) : Option L → Option Int
  | none => some d
  | some (.p (.i _ n)) => some n
  | _ => none

def vslice (P : Program) (σ : VS) (t : TypeId) (x : L) (lo hi mx : Option L) (K : Eff → Prop) : Prop :=
  match x with
  | .p (.s s) => need (isStr P t = true ∧ mx.isNone = true) (wantO (bnd 0 lo) fun a => wantO (bnd s.size hi) fun b => need (0 ≤ a ∧ a ≤ b ∧ b ≤ s.size) (K ⟨.p (.s (s.extract a.toNat b.toNat)), [], []⟩))
  | _ => wantO (elq P t) fun e => wantO (szq P e) fun es => wantO (pub0 σ x) fun q => match q.v with
    | .sl xs =>
      match mx with
      | none => wantO (bnd 0 lo) fun a => wantO (bnd xs.length hi) fun b => need (0 ≤ a ∧ a ≤ b ∧ b ≤ xs.length ∧ ∀ y ∈ xs, y.cells.length = es) (K ⟨.p (.sl ((xs.take b.toNat).drop a.toNat)), q.rd, frzs q.fz⟩)
      | some m => wantO (bnd 0 lo) fun a => wantO (bnd 0 hi) fun b => wantO (bnd 0 (some m)) fun c => need (a = 0 ∧ b = 0 ∧ c = 0 ∧ hi.isSome = true) (K ⟨.e0, q.rd, []⟩)
    | _ => False
@[congr] theorem vslice_congr {P : Program} {σ σ' : VS} {t : TypeId} {x x' : L} {lo lo' hi hi' mx mx' : Option L} {K : Eff → Prop} (h : σ = σ') (h1 : x = x') (h2 : lo = lo') (h3 : hi = hi') (h4 : mx = mx') : vslice P σ t x lo hi mx K = vslice P σ' t x' lo' hi' mx' K := by rw [h, h1, h2, h3, h4]

def isFil : Option L → Bool
  | some (.p (.i .i64 0)) => true
  | _ => false
def vsliceW (P : Program) (σ : VS) (t : TypeId) (x : L) (lo hi mx : Option L) (K : Eff → Prop) : Prop :=
  match x with
  | .arr s g => wantO (elq P t) fun e => wantO (szq P e) fun es => wantO (curA σ s g) fun c => wantO (bnd 0 lo) fun a => wantO (bnd c.2.length hi) fun b => need (mx.isNone = true ∧ c.1.2 = es ∧ 0 ≤ a ∧ a ≤ b ∧ b ≤ c.2.length) (if isFil hi = true then need (b = 0 ∧ isNone (σ.mem (.f s)) = true) (K ⟨.arr s (g + 1), [.a s, .f s], [(.a s, .arr (g + 1) c.1.1 c.1.2 [])]⟩) else K ⟨.win s g a.toNat b.toNat, [.a s], []⟩)
  | .nilS => wantO (elq P t) fun e => wantO (szq P e) fun es => wantO (bnd 0 lo) fun a => wantO (bnd 0 hi) fun b => need (mx.isNone = true ∧ a = 0 ∧ b = 0) (K ⟨.nilS, [], []⟩)
  | _ => False
def winM (Γ : Nat → Option (List V)) : Bool := (Γ 1000000).isSome
def vsl (m : Bool) (P : Program) (σ : VS) (t : TypeId) (x : L) (lo hi mx : Option L) (K : Eff → Prop) : Prop := if m = true then vsliceW P σ t x lo hi mx K else vslice P σ t x lo hi mx K
@[congr] theorem vsl_congr {m m' : Bool} {P : Program} {σ σ' : VS} {t : TypeId} {x x' : L} {lo lo' hi hi' mx mx' : Option L} {K : Eff → Prop} (h0 : m = m') (h : σ = σ') (h1 : x = x') (h2 : lo = lo') (h3 : hi = hi') (h4 : mx = mx') : vsl m P σ t x lo hi mx K = vsl m' P σ' t x' lo' hi' mx' K := by rw [h0, h, h1, h2, h3, h4]
def winQ (σ : VS) : L → Option ((Nat × Nat) × ((TypeId × Nat) × List V) × Nat × Nat)
  | .arr t g => (curA σ t g).map fun c => ((t, g), c, 0, c.2.length)
  | .win t g a b => (curA σ t g).map fun c => ((t, g), c, a, b)
  | _ => none
def vcopy (P : Program) (σ : VS) (ts : TypeId) (d x : L) (K : Eff → Prop) : Prop :=
  wantO (elq P ts) fun e => wantO (szq P e) fun es => wantO (winQ σ d) fun q => wantO (conts σ x) fun c =>
    need (es = 1 ∧ q.2.1.1.2 = es ∧ isNone (σ.mem (.f q.1.1)) = true ∧ (∀ y ∈ c.1, y.cells.length = es) ∧ q.2.2.1 ≤ q.2.2.2 ∧ q.2.2.2 ≤ q.2.1.2.length)
      (K ⟨.p (.n ((min c.1.length (q.2.2.2 - q.2.2.1) : Nat) : Int)), .a q.1.1 :: .f q.1.1 :: c.2, [(.a q.1.1, .arr q.1.2 q.2.1.1.1 q.2.1.1.2 (q.2.1.2.take q.2.2.1 ++ c.1.take (min c.1.length (q.2.2.2 - q.2.2.1)) ++ q.2.1.2.drop (q.2.2.1 + min c.1.length (q.2.2.2 - q.2.2.1))))]⟩)
@[congr] theorem vcopy_congr {P : Program} {σ σ' : VS} {ts : TypeId} {d d' x x' : L} {K : Eff → Prop} (h : σ = σ') (h1 : d = d') (h2 : x = x') : vcopy P σ ts d x K = vcopy P σ' ts d' x' K := by rw [h, h1, h2]

def vmakeTab (P : Program) (σ : VS) (d : Nat) (e : TypeId) (n c : L) (K : Eff → Prop) : Prop :=
  wantO (elq P e) fun e2 => wantO (szq P e2) fun es2 => wantO (szq P e) fun es => wantO (byq P e) fun by' => match n, c with
    | .p (.i k a), .p (.i k' b) => need (k = .i64 ∧ k' = .i64 ∧ a = b ∧ 0 ≤ a ∧ a.toNat * (by' + 1) ≤ maxBytes ∧ fresh σ d = true ∧ es = 1 ∧ 0 < es2 ∧ d < 1024 ∧ freshR σ d 0 a.toNat = true) (K ⟨.bsl d, .b d :: .a d :: tabK d 0 a.toNat, tabW d e2 es2 (List.replicate a.toNat row0)⟩)
    | _, _ => False
@[congr] theorem vmakeTab_congr {P : Program} {σ σ' : VS} {d : Nat} {t : TypeId} {n n' c c' : L} {K : Eff → Prop} (h : σ = σ') (h1 : n = n') (h2 : c = c') : vmakeTab P σ d t n c K = vmakeTab P σ' d t n' c' K := by rw [h, h1, h2]
def isRow : List L → Bool | [.nilS] => true | _ => false

def vmakeSlice (P : Program) (σ : VS) (d : Nat) (t : TypeId) (n c : L) (K : Eff → Prop) : Prop :=
  wantO (elq P t) fun e => wantO (szq P e) fun es => wantO (byq P e) fun by' => wantO (zeq P e) fun z => if isRow z = true then vmakeTab P σ d e n c K else wantO (agq P e) fun ag => wantO (pubWith (pub0 σ) z) fun q => wantO (unAggV ag q.vs) fun v => match n, c with
    | .p (.i k a), .p (.i k' b) => need (k = .i64 ∧ k' = .i64 ∧ a = b ∧ 0 ≤ a ∧ a.toNat * (by' + 1) ≤ maxBytes ∧ fresh σ d = true ∧ v.cells.length = es ∧ 0 < es) (K ⟨.arr d 0, [.b d, .a d], [(.a d, .arr 0 e es (List.replicate a.toNat v)), (.f d, .none)]⟩)
    | _, _ => False
@[congr] theorem vmakeSlice_congr {P : Program} {σ σ' : VS} {d : Nat} {t : TypeId} {n n' c c' : L} {K : Eff → Prop} (h : σ = σ') (h1 : n = n') (h2 : c = c') : vmakeSlice P σ d t n c K = vmakeSlice P σ' d t n' c' K := by rw [h, h1, h2]

def vbuildSlice (P : Program) (σ : VS) (d : Nat) (t : TypeId) (n : Nat) (is : List Nat) (ls : List L) (K : Eff → Prop) : Prop :=
  wantO (elq P t) fun e => wantO (szq P e) fun es => wantO (zeq P e) fun _ => wantO (pubWith (pub1 σ) ls) fun q =>
    need (is = List.range n ∧ ls.length = n ∧ fresh σ d = true ∧ (∀ y ∈ q.vs, y.cells.length = es) ∧ n * es ≤ 16777216 ∧ d ∉ q.fz ∧ 0 < es) (K ⟨.arr d 0, .b d :: .a d :: q.rd, [(.a d, .arr 0 e es q.vs), (.f d, .none)] ++ frzs q.fz⟩)
@[congr] theorem vbuildSlice_congr {P : Program} {σ σ' : VS} {d : Nat} {t : TypeId} {n : Nat} {is : List Nat} {ls ls' : List L} {K : Eff → Prop} (h : σ = σ') (h1 : ls = ls') : vbuildSlice P σ d t n is ls K = vbuildSlice P σ' d t n is ls' K := by rw [h, h1]

def vcallP (Sp : FuncId → List V → R → Prop) (σ : VS) (d : Option Nat) (f : L) (args : List L) (K : Eff → Prop) : Prop :=
  match f with
  | .p (.fn g first caps) => wantO (pubWith (pub1 σ) args) fun q => vcall Sp g (first ++ q.vs ++ caps) fun r => match d with
    | some d => need (((r.toL d).2.all fun w => match w.1 with | .a t => fresh σ t && !(q.fz.contains t) | _ => true) = true) (K ⟨(r.toL d).1, ((r.toL d).2.flatMap fun w => match w.1 with | .a t => [.b t, .a t] | _ => []) ++ q.rd, (r.toL d).2 ++ frzs q.fz⟩)
    | none => need ((r.toL 0).2 = []) (K ⟨.dead, q.rd, frzs q.fz⟩)
  | _ => False
def vcallO (Sp : FuncId → List V → R → Prop) (σ : VS) (d : Option Nat) (f : L) (args : List L) (K : Eff → Prop) : Prop :=
  match f, d with
  | .p (.fn g [] []), some d => ∃ pre t g0 post, args = pre ++ .arr t g0 :: post ∧ wantO (curA σ t g0) fun ((e, es), xs) => wantO (pubWith (pub1 σ) pre) fun q1 => wantO (pubWith (pub1 σ) post) fun q2 =>
      need (isNone (σ.mem (.f t)) = true ∧ t ∉ q1.fz ++ q2.fz ∧ noOwn q1.vs = true ∧ noOwn q2.vs = true) (vcall Sp g (q1.vs ++ oV e es xs :: q2.vs) fun r =>
        need (((r.toL d).2.all fun w => match w.1 with | .a t => fresh σ t && !((q1.fz ++ q2.fz).contains t) | _ => true) = true) (K ⟨(r.toL d).1, ((r.toL d).2.flatMap fun w => match w.1 with | .a t => [.b t, .a t] | _ => []) ++ (.a t :: .f t :: (q1.rd ++ q2.rd)), (r.toL d).2 ++ ((.a t, .arr (g0 + 1) e es []) :: frzs (q1.fz ++ q2.fz))⟩))
  | _, _ => False
def vcallN (Sp : FuncId → List V → R → Prop) (σ : VS) (d : Option Nat) (f : L) (args : List L) (K : Eff → Prop) : Prop :=
  match f, d with
  | .p (.fn g [] []), some d => ∃ pre post, args = pre ++ .nilS :: post ∧ wantO (pubWith (pub1 σ) pre) fun q1 => wantO (pubWith (pub1 σ) post) fun q2 =>
      need (noOwn q1.vs = true ∧ noOwn q2.vs = true) (vcall Sp g (q1.vs ++ nilV :: q2.vs) fun r =>
        need (((r.toL d).2.all fun w => match w.1 with | .a t => fresh σ t && !((q1.fz ++ q2.fz).contains t) | _ => true) = true) (K ⟨(r.toL d).1, ((r.toL d).2.flatMap fun w => match w.1 with | .a t => [.b t, .a t] | _ => []) ++ (q1.rd ++ q2.rd), (r.toL d).2 ++ frzs (q1.fz ++ q2.fz)⟩))
  | _, _ => False
def vcallF (Sp : FuncId → List V → R → Prop) (σ : VS) (d : Option Nat) (f : L) (args : List L) (K : Eff → Prop) : Prop := vcallP Sp σ d f args K ∨ vcallO Sp σ d f args K ∨ vcallN Sp σ d f args K
@[congr] theorem vcallF_congr {Sp : FuncId → List V → R → Prop} {σ σ' : VS} {d : Option Nat} {f f' : L} {args args' : List L} {K : Eff → Prop} (h : σ = σ') (h1 : f = f') (h2 : args = args') : vcallF Sp σ d f args K = vcallF Sp σ' d f' args' K := by rw [h, h1, h2]

def vmakeFunc (σ : VS) (f : FuncId) (first caps : List L) (K : Eff → Prop) : Prop :=
  wantO (pubWith (pub1 σ) first) fun p => wantO (pubWith (pubO σ) caps) fun q => K ⟨.p (.fn f p.vs q.vs), p.rd ++ q.rd, frzs p.fz ++ frzs q.fz⟩
@[congr] theorem vmakeFunc_congr {σ σ' : VS} {f : FuncId} {first first' caps caps' : List L} {K : Eff → Prop} (h : σ = σ') (h1 : first = first') (h2 : caps = caps') : vmakeFunc σ f first caps K = vmakeFunc σ' f first' caps' K := by rw [h, h1, h2]

def vun (op : UnOp) (x : L) (K : Eff → Prop) : Prop :=
  match op, x with
  | .not, .p (.b x) => K ⟨.p (.b !x), [], []⟩
  | .neg, .p (.i k n) => K ⟨.p (.i k (k.wrap (0 - n))), [], []⟩
  | _, _ => False
@[congr] theorem vun_congr {op : UnOp} {x x' : L} {K : Eff → Prop} (h : x = x') : vun op x K = vun op x' K := by rw [h]

def vextract (x : L) (i : Nat) (K : Eff → Prop) : Prop := match x with | .tup ls => wantO (ls[i]?) fun l => K ⟨l, [], []⟩ | _ => False
@[congr] theorem vextract_congr {i : Nat} {x x' : L} {K : Eff → Prop} (h : x = x') : vextract x i K = vextract x' i K := by rw [h]

def vfieldAddr (P : Program) (σ : VS) (t : TypeId) (x : L) (f : Nat) (K : Eff → Prop) : Prop :=
  wantO (flq P t f) fun (_, off, n) => match x with
    | .own s j => wantO (boxN σ s) fun m => need (j + off + n ≤ m) (K ⟨.own s (j + off), [.b s], []⟩)
    | .ep s g i j => wantO (curA σ s g) fun _ => K ⟨.ep s g i (j + off), [.a s], []⟩
    | .p (.ref cs) => K ⟨.p (.ref (cs.drop off)), [], []⟩
    | _ => False
@[congr] theorem vfieldAddr_congr {P : Program} {σ σ' : VS} {t : TypeId} {x x' : L} {f : Nat} {K : Eff → Prop} (h : σ = σ') (h1 : x = x') : vfieldAddr P σ t x f K = vfieldAddr P σ' t x' f K := by rw [h, h1]

def vfield (P : Program) (t : TypeId) (x : L) (f : Nat) (K : Eff → Prop) : Prop := wantO (flq P t f) fun (e, off, _) => vpart P e x off K
@[congr] theorem vfield_congr {P : Program} {t : TypeId} {x x' : L} {f : Nat} {K : Eff → Prop} (h1 : x = x') : vfield P t x f K = vfield P t x' f K := by rw [h1]

def vlen (σ : VS) (P : Program) (t : TypeId) (x : L) (K : Eff → Prop) : Prop :=
  match arq P t with
  | some (n, _) => K ⟨.p (.n n), [], []⟩
  | none => need (isStr P t = true ∧ (match x with | .p (.s _) => True | _ => False) ∨ (elq P t).isSome = true ∧ (match x with | .p (.s _) => False | _ => True)) (wantO (lens σ x) fun (n, ks) => K ⟨.p (.n n), ks, []⟩)
@[congr] theorem vlen_congr {P : Program} {σ σ' : VS} {t : TypeId} {x x' : L} {K : Eff → Prop} (h : σ = σ') (h1 : x = x') : vlen σ P t x K = vlen σ' P t x' K := by rw [h, h1]

def vminmax (mx : Bool) (ls : List L) (K : Eff → Prop) : Prop :=
  match ls with
  | .p (.i k a) :: r => wantO (if mx then maxI k a r else minI k a r) fun v => K ⟨.p v, [], []⟩
  | _ => False
@[congr] theorem vminmax_congr {mx : Bool} {ls ls' : List L} {K : Eff → Prop} (h : ls = ls') : vminmax mx ls K = vminmax mx ls' K := by rw [h]

def bytesV (x : ByteArray) : List V := x.data.toList.map fun b => .i .u8 b.toNat
def isU8 (P : Program) (e : TypeId) : Bool := match P.underlying e with | some (.int .u8) => true | _ => false

def vconv (P : Program) (src dst : TypeId) (x : L) (K : Eff → Prop) : Prop :=
  match P.underlying src, P.underlying dst, x with
  | some (.int _), some (.int k), .p (.i _ n) => K ⟨.p (.i k (k.wrap n)), [], []⟩
  | some .string, some (.slice e), .p (.s x) => need (isU8 P e = true) (K ⟨.p (.sl (bytesV x)), [], []⟩)
  | _, _, _ => False
@[congr] theorem vconv_congr {P : Program} {src dst : TypeId} {x x' : L} {K : Eff → Prop} (h : x = x') : vconv P src dst x K = vconv P src dst x' K := by rw [h]

def isIntT (P : Program) (t : TypeId) : Bool := match P.underlying t with | some (.int _) => true | _ => false
def vappZ (P : Program) (σ : VS) (d : Nat) (ts tx : TypeId) (s x : L) (K : Eff → Prop) : Prop :=
  wantO (elq P ts) fun e => wantO (szq P e) fun es => wantO (byq P e) fun by' => wantO (zeq P e) fun z => wantO (agq P e) fun ag => wantO (pubWith (pub0 σ) z) fun q => wantO (unAggV ag q.vs) fun v =>
    match s, x with
    | .nilS, .p (.i k n) => need (isIntT P tx = true ∧ k = .i64 ∧ 0 < n ∧ n.toNat * (by' + 1) ≤ maxBytes ∧ fresh σ d = true ∧ v.cells.length = es ∧ es = 1) (K ⟨.arr d 0, [.b d, .a d], [(.a d, .arr 0 e es (List.replicate n.toNat v)), (.f d, .none)]⟩)
    | _, _ => False
@[congr] theorem vappZ_congr {P : Program} {σ σ' : VS} {d : Nat} {ts tx : TypeId} {s s' x x' : L} {K : Eff → Prop} (h : σ = σ') (h1 : s = s') (h2 : x = x') : vappZ P σ d ts tx s x K = vappZ P σ' d ts tx s' x' K := by rw [h, h1, h2]
def vbuiltin (P : Program) (Γ : Nat → Option (List V)) (σ : VS) (dst : Option Nat) (b : Builtin) (args : List Operand) (ats : List TypeId) (K : Eff → Prop) : Prop :=
  match b, args, ats with
  | .len, [x], [t] => vlen σ P t (σ.ev Γ x) K
  | .max, args, _ => vminmax true (args.map (σ.ev Γ)) K
  | .min, args, _ => vminmax false (args.map (σ.ev Γ)) K
  | .append, [s, x], [ts, tx] => wantO dst fun d => if ts = tx then vappend P σ d ts (σ.ev Γ s) (σ.ev Γ x) K else vappZ P σ d ts tx (σ.ev Γ s) (σ.ev Γ x) K
  | .cap, [x], [t] => need ((elq P t).isSome = true ∧ (match σ.ev Γ x with | .nilS => True | _ => False)) (K ⟨.p (.n 0), [], []⟩)
  | .copy, [d, x], [ts, tx] => need (ts = tx) <| vcopy P σ ts (σ.ev Γ d) (σ.ev Γ x) K
  | _, _, _ => False

def vop (P : Program) (Γ : Nat → Option (List V)) (Sp : FuncId → List V → R → Prop) (σ : VS) (dst : Option Nat) (op : Op) (K : Eff → Prop) : Prop :=
  match op with
  | .move x => K ⟨σ.ev Γ x, [], []⟩
  | .assign x => K ⟨σ.ev Γ x, [], []⟩
  | .pick c a b => vbool (σ.ev Γ c) (K ⟨σ.ev Γ a, [], []⟩) (K ⟨σ.ev Γ b, [], []⟩)
  | .alloc t => wantO dst fun d => wantO (zeq P t) fun ls => newBox σ d ls K
  | .box _ x => wantO dst fun d => newBox σ d (σ.ev Γ x).cells K
  | .build t ps => wantO (zeq P t) fun z => wantO (plq P t) fun pl => wantO (lfill pl z (ps.toList.map fun x => (x.1, (σ.ev Γ x.2).cells))) fun ls => need ((ps.toList.all fun x => (σ.ev Γ x.2).cells.all L.isCell) = true) (K ⟨mkAgg ls, [], []⟩)
  | .buildSlice t n ps => wantO dst fun d => vbuildSlice P σ d t n (ps.toList.map (·.1)) (ps.toList.map fun x => σ.ev Γ x.2) K
  | .load t x => vload P σ t (σ.ev Γ x) K
  | .store t a x => vstore P σ t (σ.ev Γ a) (σ.ev Γ x) K
  | .binOp op t x y _ => vbin P t (Operand.isConst y) σ op (σ.ev Γ x) (σ.ev Γ y) K
  | .unOp op _ x => vun op (σ.ev Γ x) K
  | .convert s d x => vconv P s d (σ.ev Γ x) K
  | .makeFunc (.func f) first caps => vmakeFunc σ f (first.toList.map (σ.ev Γ)) (caps.toList.map (σ.ev Γ)) K
  | .makeSlice t n c => wantO dst fun d => vmakeSlice P σ d t (σ.ev Γ n) (σ.ev Γ c) K
  | .slice t x lo hi mx => vsl (winM Γ) P σ t (σ.ev Γ x) (lo.map (σ.ev Γ)) (hi.map (σ.ev Γ)) (mx.map (σ.ev Γ)) K
  | .fieldAddr t x f => vfieldAddr P σ t (σ.ev Γ x) f K
  | .field t x f => vfield P t (σ.ev Γ x) f K
  | .indexAddr t x i => vindexAddr P σ t (σ.ev Γ x) (σ.ev Γ i) K
  | .index t x i => vindex P t (σ.ev Γ x) (σ.ev Γ i) K
  | .extract x i => vextract (σ.ev Γ x) i K
  | .call ⟨.value f, args, _⟩ => vcallF Sp σ dst (σ.ev Γ f) (args.toList.map (σ.ev Γ)) K
  | .call ⟨.builtin b, args, ats⟩ => vbuiltin P Γ σ dst b args.toList ats.toList K
  | _ => False
end Go.Vm

namespace Go.Vm

structure Stp (own : Nat → Prop) (w w' : World) : Prop where
  os : w'.os = w.os
  tape : w'.tape = w.tape
  output : w'.output = w.output
  size : w.heap.size ≤ w'.heap.size
  block : ∀ k, k < w.heap.size → ¬ own k → w'.heap[k]? = w.heap[k]?

theorem Stp.refl (own : Nat → Prop) (w : World) : Stp own w w := ⟨rfl, rfl, rfl, Nat.le_refl _, fun _ _ _ => rfl⟩
theorem Stp.of_below {own : Nat → Prop} {w w' : World} (h : RowKit.Below w.heap.size w w') : Stp own w w' := ⟨h.os, h.tape, h.output, h.size, fun k hk _ => h.block k hk⟩
theorem Stp.mono {own own' : Nat → Prop} {w w' : World} (h : Stp own w w') (ho : ∀ b, own b → own' b) : Stp own' w w' := ⟨h.os, h.tape, h.output, h.size, fun k hk hn => h.block k hk fun h => hn (ho k h)⟩
theorem Stp.alloc (own : Nat → Prop) (w : World) (o : Obj) : Stp own w (w.alloc o) := ⟨rfl, rfl, rfl, by simp, fun k hk _ => RowKit.Below.heap_alloc w o k hk⟩
theorem Stp.drew (own : Nat → Prop) (w : World) : Stp own w w.drew := ⟨rfl, rfl, rfl, Nat.le_refl _, fun _ _ _ => rfl⟩
theorem Stp.setRow {own : Nat → Prop} {w : World} {g : Nat} (cs : Array Value) (h : own g) : Stp own w (w.setRow g cs) :=
  ⟨rfl, rfl, rfl, by simp, fun k _ hn => setRow_other w g k cs fun e => hn (e ▸ h)⟩

structure Ctx where
  I : M → (Nat → Prop) → (Nat → Nat → Prop) → World → Prop
  St0 : Nat → Nat → Prop
  B : Nat
  kv : Nat → Value
  step : ∀ m own St w St' w', I m own St w → Stp own w w' → (∀ b o, St b o → w'.cell? ⟨b, o, none⟩ = w.cell? ⟨b, o, none⟩) → (∀ b o, St b o → St' b o) → I m (fun b => own b ∨ (w.heap.size ≤ b ∧ b < w'.heap.size)) St' w'

structure GG where
  bk : Nat → Nat
  av : Nat → Value

def rdW (w : World) (b o : Nat) : Option Value := w.cell? ⟨b, o, none⟩

mutual
def repLv (mem : Key → M) (G : GG) (St : Nat → Nat → Prop) (rd : Nat → Nat → Option Value) : L → Value → Prop
  | .dead, _ => True
  | .p v, x => rep St rd v x
  | .nilS, x => x = .slice none 0 0
  | .e0, x => ∃ a, x = .slice a 0 0
  | .own t j, x => x = .pointer (some ⟨G.bk t, j, none⟩) ∧ ∃ n, mem (.b t) = .box n ∧ j < n
  | .arr t g, x => ∃ g' e es xs, mem (.a t) = .arr g' e es xs ∧ g ≤ g' ∧ x.oneCell' = true ∧ (g = g' → x = G.av t)
  | .ep t g i j, x => ∃ g' e es xs, mem (.a t) = .arr g' e es xs ∧ g ≤ g' ∧ (g = g' → ∃ blk, (G.av t).ownBlock = some blk ∧ i < xs.length ∧ x = .pointer (some ⟨blk, i * es + j, none⟩))
  | .agg ls, x => ∃ vs, x = .agg vs ∧ repLs mem G St rd ls vs.toList
  | .tup ls, x => ∃ vs, x = .tuple vs ∧ repLs mem G St rd ls vs.toList
  | .bsl t, x => ∃ n, mem (.b t) = .box n ∧ x = .slice (some ⟨G.bk t, 0, none⟩) n n
  | .em b, x => ∃ a c, x = .slice a 0 c ∧ a.isNone = b
  | .win t g i j, x => ∃ g' e es xs, mem (.a t) = .arr g' e es xs ∧ g ≤ g' ∧ (g = g' → i ≤ j ∧ j ≤ xs.length ∧ ∃ base c, x = .slice base (j - i) c ∧ (i < j → ∃ blk, (G.av t).ownBlock = some blk ∧ base = some ⟨blk, i * es, none⟩))
  | .cel t j, x => x = .pointer (some ⟨G.bk t, j, none⟩) ∧ ∃ n, mem (.b t) = .box n ∧ j < n
def repLs (mem : Key → M) (G : GG) (St : Nat → Nat → Prop) (rd : Nat → Nat → Option Value) : List L → List Value → Prop
  | [], l => l = []
  | x :: xs, l => ∃ v r, l = v :: r ∧ repLv mem G St rd x v ∧ repLs mem G St rd xs r
end

def repEs (St : Nat → Nat → Prop) (rd : Nat → Nat → Option Value) (es : Nat) (xs : List V) (vs : List Value) : Prop :=
  vs.length = xs.length * es ∧ ∀ i x, xs[i]? = some x → repC St rd x ((vs.drop (i * es)).take es)

def blkOf (mem : Key → M) (G : GG) (t : Nat) : Option Nat :=
  match mem (.b t) with
  | .box _ => some (G.bk t)
  | _ => match mem (.a t) with
    | .arr _ _ _ _ => (G.av t).ownBlock
    | _ => none

def mkD (ds : List Deferred) (b : Nat) : Prop := (⟨.collected b, #[]⟩ : Deferred) ∈ ds
abbrev ownM (own : Nat → Prop) (ds : List Deferred) : Nat → Prop := fun b => own b ∨ mkD ds b
def Marks (X : Ctx) (ds : List Deferred) (own : Nat → Prop) (w : World) : Prop :=
  ds.Nodup ∧ ∀ d ∈ ds, ∃ r, d = ⟨.collected r, #[]⟩ ∧ w.heap[r]? = some (.deferred (some [])) ∧ X.B ≤ r ∧ ¬ own r ∧ ∀ o, ¬ X.St0 r o
@[reducible] def dsM : List Deferred := [⟨.collected 0, #[]⟩]
theorem dsM_ne : dsM ≠ [] := by simp [dsM]
theorem Marks.nil (X : Ctx) (own : Nat → Prop) (w : World) : Marks X [] own w := ⟨List.nodup_nil, fun _ h => by cases h⟩

structure RepD (Γ : Nat → Option (List V)) (X : Ctx) (N : Nat) (ds : List Deferred) (σ : VS) (a : Act) (w : World) (G : GG) (St : Nat → Nat → Prop) (own : Nat → Prop) : Prop where
  size : a.tmps.size = N
  defs : Marks X a.defers own w
  dsq : ds = [] → a.defers = []
  inv : X.I (σ.mem .y) (ownM own a.defers) St w
  st0 : ∀ b o, X.St0 b o → St b o
  stn : ∀ b o, St b o → X.St0 b o ∨ own b
  stlt : ∀ b o, St b o → b < w.heap.size
  blt : X.B ≤ w.heap.size
  ownlt : ∀ b, own b → b < w.heap.size ∧ X.B ≤ b
  glob : ∀ g cs, Γ g = some cs → repA St (rdW w) cs g 0
  slots : ∀ t, repLv σ.mem G St (rdW w) (σ.get t) (a.tmps.getD t undef)
  virts : ∀ t l, σ.mem (.v t) = .cell l → repLv σ.mem G St (rdW w) l (X.kv t)
  boxes : ∀ t n, σ.mem (.b t) = .box n → ∃ cs e, w.heap[G.bk t]? = some (.cells cs e (0, 0)) ∧ cs.size = n ∧
    ∀ j, j < n → ∃ l v, σ.mem (.c t j) = .cell l ∧ cs[j]? = some v ∧ repLv σ.mem G St (rdW w) l v ∧ v.oneCell' = true
  arrs : ∀ t g e es xs, σ.mem (.a t) = .arr g e es xs → 0 < es ∧ ∃ vs, w.ownsRow 0 e es (G.av t) xs.length vs ∧ repEs St (rdW w) es xs vs
  disj : ∀ t t' b, blkOf σ.mem G t = some b → blkOf σ.mem G t' = some b → t = t'
  both : ∀ t n g e es xs, σ.mem (.b t) = .box n → σ.mem (.a t) = .arr g e es xs → False
  ownb : ∀ t b, blkOf σ.mem G t = some b → own b
  sbox : ∀ t n, σ.mem (.b t) = .box n → isNone (σ.mem (.f t)) = true → ∀ o, ¬ St (G.bk t) o
  sarr : ∀ t g e es xs b, σ.mem (.a t) = .arr g e es xs → (G.av t).ownBlock = some b →
    (isNone (σ.mem (.f t)) = true → ∀ o, ¬ St b o) ∧ ∀ o, xs.length * es ≤ o → ¬ St b o

structure Refs (mem : Key → M) (G : GG) (mem' : Key → M) (G' : GG) : Prop where
  b : ∀ t n, mem (.b t) = .box n → mem' (.b t) = .box n ∧ G'.bk t = G.bk t
  a : ∀ t g e es xs, mem (.a t) = .arr g e es xs → ∃ g' e' es' xs', mem' (.a t) = .arr g' e' es' xs' ∧ (g < g' ∨ (g = g' ∧ es' = es ∧ xs.length = xs'.length ∧ G'.av t = G.av t))

theorem Refs.refl (mem : Key → M) (G : GG) : Refs mem G mem G := ⟨fun _ _ h => ⟨h, rfl⟩, fun _ g e es xs h => ⟨g, e, es, xs, h, .inr ⟨rfl, rfl, rfl, rfl⟩⟩⟩

section
variable {mem mem' : Key → M} {G G' : GG} {St St' : Nat → Nat → Prop} {rd rd' : Nat → Nat → Option Value}
mutual
theorem repLv_mono (hr : Refs mem G mem' G') (h1 : ∀ b o, St b o → St' b o) (h2 : ∀ b o, St b o → rd' b o = rd b o) : ∀ (l : L) (v : Value), repLv mem G St rd l v → repLv mem' G' St' rd' l v
  | .dead, _, _ => by simp only [repLv]
  | .p v, x, h => by simp only [repLv] at h ⊢; exact rep_mono h1 h2 h
  | .nilS, x, h => by simpa only [repLv] using h
  | .e0, x, h => by simpa only [repLv] using h
  | .own t j, x, h => by
    simp only [repLv] at h ⊢
    obtain ⟨e, n, p, q⟩ := h
    obtain ⟨p1, p2⟩ := hr.b t n p
    exact ⟨by rw [p2]; exact e, n, p1, q⟩
  | .arr t g, x, h => by
    simp only [repLv] at h ⊢
    obtain ⟨g1, e, es, xs, p, q, r0, r⟩ := h
    obtain ⟨g2, e', es', xs', p', q'⟩ := hr.a t g1 e es xs p
    rcases q' with q' | ⟨q1, q2, q3, q4⟩
    · exact ⟨g2, e', es', xs', p', by omega, r0, fun h => by omega⟩
    · exact ⟨g2, e', es', xs', p', by omega, r0, fun h => by rw [q4]; exact r (by omega)⟩
  | .ep t g i j, x, h => by
    simp only [repLv] at h ⊢
    obtain ⟨g1, e, es, xs, p, q, r⟩ := h
    obtain ⟨g2, e', es', xs', p', q'⟩ := hr.a t g1 e es xs p
    rcases q' with q' | ⟨q1, q2, q3, q4⟩
    · exact ⟨g2, e', es', xs', p', by omega, fun h => by omega⟩
    · refine ⟨g2, e', es', xs', p', by omega, fun h => ?_⟩
      obtain ⟨blk, r1, r2, r3⟩ := r (by omega)
      exact ⟨blk, by rw [q4]; exact r1, by omega, by rw [q2]; exact r3⟩
  | .em b, x, h => by simpa only [repLv] using h
  | .win t g i j, x, h => by
    simp only [repLv] at h ⊢
    obtain ⟨g1, e, es, xs, p, q, r⟩ := h
    obtain ⟨g2, e', es', xs', p', q'⟩ := hr.a t g1 e es xs p
    rcases q' with q' | ⟨q1, q2, q3, q4⟩
    · exact ⟨g2, e', es', xs', p', by omega, fun h => by omega⟩
    · refine ⟨g2, e', es', xs', p', by omega, fun h => ?_⟩
      obtain ⟨r1, r2, base, c, r3, r4⟩ := r (by omega)
      refine ⟨r1, by omega, base, c, r3, fun hij => ?_⟩
      obtain ⟨blk, r5, r6⟩ := r4 hij
      exact ⟨blk, by rw [q4]; exact r5, by rw [q2]; exact r6⟩
  | .bsl t, x, h => by
    simp only [repLv] at h ⊢
    obtain ⟨n, p, q⟩ := h
    obtain ⟨p1, p2⟩ := hr.b t n p
    exact ⟨n, p1, by rw [p2]; exact q⟩
  | .cel t j, x, h => by
    simp only [repLv] at h ⊢
    obtain ⟨e, n, p, q⟩ := h
    obtain ⟨p1, p2⟩ := hr.b t n p
    exact ⟨by rw [p2]; exact e, n, p1, q⟩
  | .agg ls, x, h => by
    simp only [repLv] at h ⊢
    obtain ⟨vs, e, p⟩ := h
    exact ⟨vs, e, repLs_mono hr h1 h2 ls _ p⟩
  | .tup ls, x, h => by
    simp only [repLv] at h ⊢
    obtain ⟨vs, e, p⟩ := h
    exact ⟨vs, e, repLs_mono hr h1 h2 ls _ p⟩
theorem repLs_mono (hr : Refs mem G mem' G') (h1 : ∀ b o, St b o → St' b o) (h2 : ∀ b o, St b o → rd' b o = rd b o) : ∀ (l : List L) (v : List Value), repLs mem G St rd l v → repLs mem' G' St' rd' l v
  | [], _, h => by simpa only [repLs] using h
  | x :: xs, l, h => by
    simp only [repLs] at h ⊢
    obtain ⟨v, r, e, p, q⟩ := h
    exact ⟨v, r, e, repLv_mono hr h1 h2 x v p, repLs_mono hr h1 h2 xs r q⟩
end
theorem repEs_mono (h1 : ∀ b o, St b o → St' b o) (h2 : ∀ b o, St b o → rd' b o = rd b o) {es : Nat} {xs : List V} {vs : List Value} (h : repEs St rd es xs vs) : repEs St' rd' es xs vs :=
  ⟨h.1, fun i x hi => repC_mono h1 h2 _ _ (h.2 i x hi)⟩

theorem repLs_get : ∀ {ls : List L} {vs : List Value}, repLs mem G St rd ls vs ↔ ls.length = vs.length ∧ ∀ (i : Nat) (l : L) (v : Value), ls[i]? = some l → vs[i]? = some v → repLv mem G St rd l v
  | [], vs => by simp only [repLs]; constructor
                 · rintro rfl; simp
                 · rintro ⟨h, _⟩; exact List.eq_nil_of_length_eq_zero h.symm
  | l :: ls, vs => by
    simp only [repLs]
    constructor
    · rintro ⟨v, r, rfl, p, q⟩
      obtain ⟨h1, h2⟩ := repLs_get.1 q
      refine ⟨by simp [h1], fun i l' v' hl hv => ?_⟩
      cases i with
      | zero => simp at hl hv; subst hl; subst hv; exact p
      | succ i => exact h2 i l' v' (by simpa using hl) (by simpa using hv)
    · rintro ⟨h1, h2⟩
      match vs, h1, h2 with
      | v :: r, h1, h2 =>
        exact ⟨v, r, rfl, h2 0 l v rfl rfl, repLs_get.2 ⟨by simpa using h1, fun i l' v' hl hv => h2 (i + 1) l' v' (by simpa using hl) (by simpa using hv)⟩⟩
theorem repLs_length {ls : List L} {vs : List Value} (h : repLs mem G St rd ls vs) : ls.length = vs.length := (repLs_get.1 h).1
theorem repLs_append : ∀ {a b : List L} {x y : List Value}, repLs mem G St rd a x → repLs mem G St rd b y → repLs mem G St rd (a ++ b) (x ++ y)
  | [], _, _, _, h, k => by simp only [repLs] at h; subst h; exact k
  | l :: ls, b, x, y, h, k => by
    simp only [repLs] at h
    obtain ⟨v, r, rfl, p, q⟩ := h
    simp only [List.cons_append, repLs]
    exact ⟨v, r ++ y, rfl, p, repLs_append q k⟩
theorem repLs_take {ls : List L} {vs : List Value} (h : repLs mem G St rd ls vs) (n : Nat) : repLs mem G St rd (ls.take n) (vs.take n) := by
  obtain ⟨h1, h2⟩ := repLs_get.1 h
  refine repLs_get.2 ⟨by simp [h1], fun i l v hl hv => ?_⟩
  simp only [List.getElem?_take] at hl hv
  split at hl
  · rename_i hi; simp only [hi, if_true] at hv; exact h2 i l v hl hv
  · cases hl
theorem repLs_drop {ls : List L} {vs : List Value} (h : repLs mem G St rd ls vs) (n : Nat) : repLs mem G St rd (ls.drop n) (vs.drop n) := by
  obtain ⟨h1, h2⟩ := repLs_get.1 h
  refine repLs_get.2 ⟨by simp [h1], fun i l v hl hv => ?_⟩
  simp only [List.getElem?_drop] at hl hv
  exact h2 _ l v hl hv
end
theorem rdW_of_block {w w' : World} {b o : Nat} (h : w'.heap[b]? = w.heap[b]?) : rdW w' b o = rdW w b o := World.cell?_of_block (a := ⟨b, o, none⟩) h

theorem repLs_p {mem : Key → M} {G : GG} {St : Nat → Nat → Prop} {rd : Nat → Nat → Option Value} : ∀ {cs : List V} {l : List Value}, repL St rd cs l → repLs mem G St rd (cs.map .p) l
  | [], l, h => by simpa only [repL, List.map_nil, repLs] using h
  | c :: cs, l, h => by
    simp only [repL] at h
    obtain ⟨v, r, rfl, p, q⟩ := h
    simp only [List.map_cons, repLs, repLv]
    have hp := repC_plain c [v] p.2 v (by simp)
    refine ⟨v, r, rfl, ?_, repLs_p q⟩
    have hc : v.cells.toList = [v] := by cases v <;> first | rfl | (simp [plainCell] at hp)
    have ha : Value.isAgg v = false := by cases v <;> first | rfl | (simp [plainCell] at hp)
    exact ⟨by rw [hc]; exact p.2, by rw [ha, p.1]⟩
end Go.Vm

namespace Go.Vm
variable {Γ : Nat → Option (List V)} {X : Ctx} {N : Nat} {ds : List Deferred} {σ : VS} {a : Act} {w w' : World} {G G' : GG} {St St' : Nat → Nat → Prop} {own : Nat → Prop}

abbrev newOwn (own : Nat → Prop) (w w' : World) : Nat → Prop := fun b => own b ∨ (w.heap.size ≤ b ∧ b < w'.heap.size)

theorem look_cellsW {d : Nat} : ∀ {ls : List L} {j0 : Nat} {t j : Nat} {m : M}, look (.c t j) m (cellsW d j0 ls) = if t = d ∧ j0 ≤ j then (match ls[j - j0]? with | some l => .cell l | none => m) else m
  | [], j0, t, j, m => by simp [cellsW, look]
  | l :: ls, j0, t, j, m => by
    simp only [cellsW, look, Key.c.injEq]
    by_cases h : t = d ∧ j = j0
    · obtain ⟨rfl, rfl⟩ := h; simp
    · rw [if_neg h, look_cellsW]
      by_cases h1 : t = d
      · by_cases h2 : j0 ≤ j
        · have h3 : j0 + 1 ≤ j := by have : j ≠ j0 := fun e => h ⟨h1, e⟩; omega
          have : j - j0 = (j - (j0 + 1)) + 1 := by omega
          simp [h1, h2, h3, this]
        · have : ¬ (j0 + 1 ≤ j) := by omega
          simp [h1, h2, this]
      · simp [h1]
theorem look_cellsW_b {d t : Nat} {m : M} : ∀ {ls : List L} {j0 : Nat}, look (.b t) m (cellsW d j0 ls) = m
  | [], _ => rfl
  | l :: ls, j0 => by simp only [cellsW, look]; rw [if_neg (by simp)]; exact look_cellsW_b
theorem look_cellsW_f {d t : Nat} {m : M} : ∀ {ls : List L} {j0 : Nat}, look (.f t) m (cellsW d j0 ls) = m
  | [], _ => rfl
  | l :: ls, j0 => by simp only [cellsW, look]; rw [if_neg (by simp)]; exact look_cellsW_f
theorem look_cellsW_a {d t : Nat} {m : M} : ∀ {ls : List L} {j0 : Nat}, look (.a t) m (cellsW d j0 ls) = m
  | [], _ => rfl
  | l :: ls, j0 => by simp only [cellsW, look]; rw [if_neg (by simp)]; exact look_cellsW_a
theorem look_cellsW_y {d : Nat} {m : M} : ∀ {ls : List L} {j0 : Nat}, look .y m (cellsW d j0 ls) = m
  | [], _ => rfl
  | l :: ls, j0 => by simp only [cellsW, look]; rw [if_neg (by simp)]; exact look_cellsW_y
theorem look_cellsW_v {d t : Nat} {m : M} : ∀ {ls : List L} {j0 : Nat}, look (.v t) m (cellsW d j0 ls) = m
  | [], _ => rfl
  | l :: ls, j0 => by simp only [cellsW, look]; rw [if_neg (by simp)]; exact look_cellsW_v
theorem look_frzs_v {t : Nat} {m : M} : ∀ {l : List Nat}, look (.v t) m (frzs l) = m
  | [] => rfl
  | s :: l => by
    show look (.v t) m ((Key.f s, M.frz) :: frzs l) = m
    simp only [look]; rw [if_neg (by simp)]; exact look_frzs_v
theorem look_frzs_y {m : M} : ∀ {l : List Nat}, look .y m (frzs l) = m
  | [] => rfl
  | t :: l => by
    show look .y m ((Key.f t, M.frz) :: frzs l) = m
    simp only [look]; rw [if_neg (by simp)]; exact look_frzs_y
theorem isNone_iff {m : M} : isNone m = true ↔ m = .none := by cases m <;> simp [isNone]
theorem fresh_iff {d : Nat} : fresh σ d = true ↔ σ.mem (.b d) = .none ∧ σ.mem (.a d) = .none := by simp [fresh, isNone_iff]

theorem RepD.blk_lt (h : RepD Γ X N ds σ a w G St own) {t b : Nat} (hb : blkOf σ.mem G t = some b) : b < w.heap.size := (h.ownlt b (h.ownb t b hb)).1

theorem RepD.blkB (_ : RepD Γ X N ds σ a w G St own) {t n : Nat} (hb : σ.mem (.b t) = .box n) : blkOf σ.mem G t = some (G.bk t) := by simp [blkOf, hb]
theorem RepD.blkA (h : RepD Γ X N ds σ a w G St own) {t g es : Nat} {e : TypeId} {xs : List V} (hb : σ.mem (.a t) = .arr g e es xs) : blkOf σ.mem G t = (G.av t).ownBlock := by
  unfold blkOf
  split
  · rename_i n h1; exact (h.both t n g e es xs h1 hb).elim
  · simp [hb]

theorem ownsRow_block {base : Nat} {e : TypeId} {size n : Nat} {v : Value} {xs : List Value} (h : w.ownsRow base e size v n xs) (hb : ∀ b, v.ownBlock = some b → w'.heap[b]? = w.heap[b]?) : w'.ownsRow base e size v n xs := by
  obtain ⟨h1, h2⟩ := h
  refine ⟨h1, ?_⟩
  rcases h2 with h2 | ⟨g, cap, cur, rfl, p, q, r⟩
  · exact .inl h2
  · exact .inr ⟨g, cap, cur, rfl, p, by rw [hb g rfl]; exact q, r⟩

theorem heap_alloc_new (w : World) (o : Obj) : (w.alloc o).heap[w.heap.size]? = some o := by
  show (w.heap.push o)[w.heap.size]? = _
  simp

theorem Marks.lt {ds : List Deferred} (h : Marks X ds own w) {b : Nat} (hb : mkD ds b) : b < w.heap.size ∧ X.B ≤ b ∧ ¬ own b := by
  obtain ⟨r, e, p, q, s, _⟩ := h.2 _ hb
  cases e
  exact ⟨(Array.getElem?_eq_some_iff.1 p).1, q, s⟩
theorem Marks.step {ds : List Deferred} {it : Nat → Prop} (h : Marks X ds own w) (hs : Stp it w w') (hit : ∀ b, it b → own b) : Marks X ds (newOwn own w w') w' := by
  refine ⟨h.1, fun d hd => ?_⟩
  obtain ⟨r, e, p, q, s, t⟩ := h.2 d hd
  have hlt : r < w.heap.size := (Array.getElem?_eq_some_iff.1 p).1
  refine ⟨r, e, by rw [hs.block r hlt fun h => s (hit r h)]; exact p, q, fun h => ?_, t⟩
  rcases h with h | h
  · exact s h
  · omega
theorem RepD.inv_step (h : RepD Γ X N ds σ a w G St own) (hs : Stp own w w') (hrd : ∀ b o, St b o → rdW w' b o = rdW w b o) : X.I (σ.mem .y) (ownM (newOwn own w w') a.defers) St w' := by
  have := X.step _ (ownM own a.defers) St w St w' h.inv (hs.mono fun _ h => .inl h) hrd fun _ _ h => h
  have e : (fun b => ownM own a.defers b ∨ (w.heap.size ≤ b ∧ b < w'.heap.size)) = ownM (newOwn own w w') a.defers := by
    funext b; unfold ownM newOwn; apply propext
    constructor
    · rintro ((h | h) | h)
      · exact .inl (.inl h)
      · exact .inr h
      · exact .inl (.inr h)
    · rintro ((h | h) | h)
      · exact .inl (.inl h)
      · exact .inr h
      · exact .inl (.inr h)
  rw [← e]; exact this

theorem RepD.inv_more (h : RepD Γ X N ds σ a w G St own) (hS : ∀ b o, St b o → St' b o) : X.I (σ.mem .y) (ownM own a.defers) St' w := by
  have := X.step _ (ownM own a.defers) St w St' w h.inv (Stp.refl _ _) (fun _ _ _ => rfl) hS
  have e : (fun b => ownM own a.defers b ∨ (w.heap.size ≤ b ∧ b < w.heap.size)) = ownM own a.defers := by
    funext b; apply propext
    exact ⟨fun h => h.elim id fun h => by omega, .inl⟩
  rw [← e]; exact this

theorem RepD.ext (h : RepD Γ X N ds σ a w G St own) (hs : Stp (fun _ => False) w w') : RepD Γ X N ds σ a w' G St (newOwn own w w') := by
  have hrd : ∀ b o, St b o → rdW w' b o = rdW w b o := fun b o hb => rdW_of_block (hs.block b (h.stlt b o hb) id)
  have hbl : ∀ t b, blkOf σ.mem G t = some b → w'.heap[b]? = w.heap[b]? := fun t b hb => hs.block b (h.blk_lt hb) id
  have hrf := Refs.refl σ.mem G
  have h1 : ∀ b o, St b o → St b o := fun _ _ h => h
  exact {
    size := h.size, defs := h.defs.step hs fun _ h => h.elim, dsq := h.dsq
    inv := h.inv_step (hs.mono fun _ h => h.elim) hrd
    st0 := h.st0, stn := fun b o hb => (h.stn b o hb).imp id fun h => .inl h
    stlt := fun b o hb => Nat.lt_of_lt_of_le (h.stlt b o hb) hs.size
    blt := Nat.le_trans h.blt hs.size
    ownlt := fun b hb => by
      rcases hb with hb | ⟨p, q⟩
      · exact ⟨Nat.lt_of_lt_of_le (h.ownlt b hb).1 hs.size, (h.ownlt b hb).2⟩
      · exact ⟨q, Nat.le_trans h.blt p⟩
    glob := fun g cs hg => repA_mono h1 hrd cs g 0 (h.glob g cs hg)
    slots := fun t => repLv_mono hrf h1 hrd _ _ (h.slots t)
    virts := fun t l hb => repLv_mono hrf h1 hrd _ _ (h.virts t l hb)
    boxes := fun t n hb => by
      obtain ⟨cs, e, p, q, r⟩ := h.boxes t n hb
      refine ⟨cs, e, by rw [hbl t _ (h.blkB hb)]; exact p, q, fun j hj => ?_⟩
      obtain ⟨l, v, r1, r2, r3, r4⟩ := r j hj
      exact ⟨l, v, r1, r2, repLv_mono hrf h1 hrd _ _ r3, r4⟩
    arrs := fun t g e es xs hb => by
      obtain ⟨h0, vs, p, q⟩ := h.arrs t g e es xs hb
      exact ⟨h0, vs, ownsRow_block p fun b hv => hbl t b (by rw [h.blkA hb]; exact hv), repEs_mono h1 hrd q⟩
    disj := h.disj, both := h.both
    ownb := fun t b hb => .inl (h.ownb t b hb)
    sbox := h.sbox, sarr := h.sarr }

theorem getD_set (t : Array Value) (d k : Nat) (v : Value) (hd : d < t.size) : (t.setIfInBounds d v).getD k undef = if k = d then v else t.getD k undef := by
  simp only [Array.getD_eq_getD_getElem?, Array.getElem?_setIfInBounds]
  by_cases h : d = k
  · subst h; simp [hd]
  · rw [if_neg h, if_neg fun e => h e.symm]

theorem RepD.put (h : RepD Γ X N ds σ a w G St own) {d : Nat} (hd : d < N) {l : L} {v : Value} (hv : repLv σ.mem G St (rdW w) l v) : RepD Γ X N ds (σ.put d l) (a.put (some d) v) w G St own :=
  { h with
    size := by simp [Act.put, h.size]
    defs := h.defs, dsq := h.dsq
    inv := h.inv
    slots := fun t => by
      simp only [VS.put, Act.put]
      rw [getD_set _ _ _ _ (by rw [h.size]; exact hd)]
      split
      · exact hv
      · exact h.slots t }

theorem RepD.putO (h : RepD Γ X N ds σ a w G St own) {d : Option Nat} (hd : ∀ d', d = some d' → d' < N) {l : L} {v : Value} (hv : repLv σ.mem G St (rdW w) l v) : RepD Γ X N ds (σ.putO d l) (a.put d v) w G St own := by
  cases d with
  | none => exact h
  | some d => exact h.put (hd d rfl) hv

theorem RepD.newBox (h : RepD Γ X N ds σ a w G St own) {d : Nat} (hf : fresh σ d = true) {ls : List L} {vs : List Value} (hv : repLs σ.mem G St (rdW w) ls vs) (h1 : ∀ v ∈ vs, v.oneCell' = true) (e : TypeId) :
    RepD Γ X N ds (σ.upd ((.b d, .box ls.length) :: (.f d, .none) :: cellsW d 0 ls)) a (w.alloc (.cells vs.toArray e)) ⟨fun t => if t = d then w.heap.size else G.bk t, G.av⟩ St (newOwn own w (w.alloc (.cells vs.toArray e))) := by
  obtain ⟨hfb, hfa⟩ := fresh_iff.1 hf
  have h' := h.ext (Stp.alloc (fun _ => False) w (.cells vs.toArray e))
  have hlen := repLs_length hv
  have mb : ∀ t, (σ.upd ((.b d, .box ls.length) :: (.f d, .none) :: cellsW d 0 ls)).mem (.b t) = if t = d then .box ls.length else σ.mem (.b t) := fun t => by
    simp only [VS.upd, look, Key.b.injEq, reduceCtorEq, if_false, look_cellsW_b]
  have ma : ∀ t, (σ.upd ((.b d, .box ls.length) :: (.f d, .none) :: cellsW d 0 ls)).mem (.a t) = σ.mem (.a t) := fun t => by
    simp only [VS.upd, look, reduceCtorEq, if_false, look_cellsW_a]
  have mf : ∀ t, (σ.upd ((.b d, .box ls.length) :: (.f d, .none) :: cellsW d 0 ls)).mem (.f t) = if t = d then .none else σ.mem (.f t) := fun t => by
    simp only [VS.upd, look, Key.f.injEq, reduceCtorEq, if_false, look_cellsW_f]
  have mc : ∀ t j, (σ.upd ((.b d, .box ls.length) :: (.f d, .none) :: cellsW d 0 ls)).mem (.c t j) = if t = d then (match ls[j]? with | some l => .cell l | none => σ.mem (.c t j)) else σ.mem (.c t j) := fun t j => by
    simp only [VS.upd, look, reduceCtorEq, if_false, look_cellsW, Nat.zero_le, and_true, Nat.sub_zero]
  have my : (σ.upd ((.b d, .box ls.length) :: (.f d, .none) :: cellsW d 0 ls)).mem .y = σ.mem .y := by simp only [VS.upd, look, reduceCtorEq, if_false, look_cellsW_y, look_frzs_y]
  have mv : ∀ t, (σ.upd ((.b d, .box ls.length) :: (.f d, .none) :: cellsW d 0 ls)).mem (.v t) = σ.mem (.v t) := fun t => by simp only [VS.upd, look, reduceCtorEq, if_false, look_cellsW_v, look_frzs_v]
  generalize hσ : σ.upd ((.b d, .box ls.length) :: (.f d, .none) :: cellsW d 0 ls) = σ' at mb ma mf mc my mv
  have hget : σ'.get = σ.get := by rw [← hσ]; rfl
  have hrf : Refs σ.mem G σ'.mem ⟨fun t => if t = d then w.heap.size else G.bk t, G.av⟩ := {
    b := fun t n hb => by
      have : t ≠ d := fun e => by rw [e, hfb] at hb; cases hb
      exact ⟨by rw [mb, if_neg this]; exact hb, by simp [this]⟩
    a := fun t g e es xs ha => ⟨g, e, es, xs, by rw [ma]; exact ha, .inr ⟨rfl, rfl, rfl, rfl⟩⟩ }
  have hs : ∀ b o, St b o → St b o := fun _ _ h => h
  have hrd : ∀ b o, St b o → rdW (w.alloc (.cells vs.toArray e)) b o = rdW w b o := fun b o hb => rdW_of_block (RowKit.Below.heap_alloc w _ b (h.stlt b o hb))
  have hrd0 : ∀ b o, St b o → rdW (w.alloc (.cells vs.toArray e)) b o = rdW (w.alloc (.cells vs.toArray e)) b o := fun _ _ _ => rfl
  have blk : ∀ t b, blkOf σ'.mem ⟨fun t => if t = d then w.heap.size else G.bk t, G.av⟩ t = some b → (t = d ∧ b = w.heap.size) ∨ (t ≠ d ∧ blkOf σ.mem G t = some b) := fun t b hb => by
    unfold blkOf at hb
    rw [mb, ma] at hb
    by_cases ht : t = d
    · subst ht; simp at hb; exact .inl ⟨rfl, hb.symm⟩
    · refine .inr ⟨ht, ?_⟩
      unfold blkOf; simpa only [if_neg ht] using hb
  exact { h' with
    inv := by rw [my]; exact h'.inv
    slots := fun t => by rw [hget]; exact repLv_mono hrf hs hrd0 _ _ (h'.slots t)
    virts := fun t l hb => by rw [mv] at hb; exact repLv_mono hrf hs hrd0 _ _ (h'.virts t l hb)
    boxes := fun t n hb => by
      rw [mb] at hb
      by_cases ht : t = d
      · subst ht
        simp at hb
        subst hb
        refine ⟨vs.toArray, e, by simp only [if_true]; exact heap_alloc_new w _, by simp [hlen], fun j hj => ?_⟩
        have hj' : j < vs.length := by omega
        refine ⟨ls[j], vs[j], by rw [mc]; simp [hj], by simp [hj'], ?_, h1 _ (List.getElem_mem _)⟩
        exact repLv_mono hrf hs hrd _ _ ((repLs_get.1 hv).2 j _ _ (by simp [hj]) (by simp [hj']))
      · rw [if_neg ht] at hb
        obtain ⟨cs, e', p, q, r⟩ := h'.boxes t n hb
        refine ⟨cs, e', by simp only [if_neg ht]; exact p, q, fun j hj => ?_⟩
        obtain ⟨l, v, r1, r2, r3, r4⟩ := r j hj
        exact ⟨l, v, by rw [mc, if_neg ht]; exact r1, r2, repLv_mono hrf hs hrd0 _ _ r3, r4⟩
    arrs := fun t g e' es xs hb => by rw [ma] at hb; exact h'.arrs t g e' es xs hb
    disj := fun t t' b hb hb' => by
      rcases blk t b hb with ⟨p, q⟩ | ⟨p, q⟩ <;> rcases blk t' b hb' with ⟨p', q'⟩ | ⟨p', q'⟩
      · rw [p, p']
      · have := h.blk_lt q'; omega
      · have := h.blk_lt q; omega
      · exact h.disj t t' b q q'
    both := fun t n g e' es xs hb ha => by
      rw [ma] at ha; rw [mb] at hb
      by_cases ht : t = d
      · subst ht; rw [hfa] at ha; cases ha
      · rw [if_neg ht] at hb; exact h.both t n g e' es xs hb ha
    ownb := fun t b hb => by
      rcases blk t b hb with ⟨p, q⟩ | ⟨p, q⟩
      · subst q; exact .inr ⟨Nat.le_refl _, by simp⟩
      · exact .inl (h.ownb t b q)
    sbox := fun t n hb hff o ho => by
      rw [mb] at hb; rw [mf] at hff
      by_cases ht : t = d
      · simp only [ht, if_true] at ho
        have := h.stlt _ _ ho; omega
      · rw [if_neg ht] at hb hff
        simp only [if_neg ht] at ho
        exact h.sbox t n hb hff o ho
    sarr := fun t g e' es xs b hb hv => by
      rw [ma] at hb
      refine ⟨fun hff => ?_, (h.sarr t g e' es xs b hb hv).2⟩
      rw [mf] at hff
      by_cases ht : t = d
      · subst ht; rw [hfa] at hb; cases hb
      · rw [if_neg ht] at hff
        exact (h.sarr t g e' es xs b hb hv).1 hff }
end Go.Vm

namespace Go.Vm
variable {Γ : Nat → Option (List V)} {X : Ctx} {N : Nat} {ds : List Deferred} {σ : VS} {a : Act} {w w' : World} {G G' : GG} {St St' : Nat → Nat → Prop} {own : Nat → Prop}

theorem RepD.setBox (h : RepD Γ X N ds σ a w G St own) {s m : Nat} (hb : σ.mem (.b s) = .box m) (hf : isNone (σ.mem (.f s)) = true) {j : Nat} {ls : List L} {vs : List Value} (hj : j + ls.length ≤ m)
    (hv : repLs σ.mem G St (rdW w) ls vs) (h1 : ∀ v ∈ vs, v.oneCell' = true) {cs : Array Value} {e : TypeId} (hc : w.heap[G.bk s]? = some (.cells cs e (0, 0))) :
    RepD Γ X N ds (σ.upd (cellsW s j ls)) a (w.setRow (G.bk s) (cs.toList.take j ++ vs ++ cs.toList.drop (j + vs.length)).toArray) G St (newOwn own w (w.setRow (G.bk s) (cs.toList.take j ++ vs ++ cs.toList.drop (j + vs.length)).toArray)) := by
  have hlen := repLs_length hv
  have hown : own (G.bk s) := h.ownb s _ (h.blkB hb)
  have hsb := h.sbox s m hb hf
  obtain ⟨cs', e', p, q, r⟩ := h.boxes s m hb
  rw [hc] at p
  simp only [Option.some.injEq, Obj.cells.injEq] at p
  obtain ⟨rfl, rfl, _⟩ := p
  generalize hnew : (cs.toList.take j ++ vs ++ cs.toList.drop (j + vs.length)).toArray = new
  have hnsz : new.size = m := by rw [← hnew]; simp; omega
  have hnget : ∀ k, new[k]? = if j ≤ k ∧ k < j + vs.length then vs[k - j]? else cs[k]? := fun k => by
    rw [← hnew]
    simp only [List.getElem?_toArray, List.append_assoc]
    by_cases h1 : k < j
    · rw [List.getElem?_append_left (by simp; omega), if_neg (by omega), List.getElem?_take_of_lt h1]; simp
    · rw [List.getElem?_append_right (by simp; omega)]
      have hl : (cs.toList.take j).length = j := by simp; omega
      rw [hl]
      by_cases h2 : k < j + vs.length
      · rw [List.getElem?_append_left (by omega), if_pos (by omega)]
      · rw [List.getElem?_append_right (by omega), if_neg (by omega), List.getElem?_drop]
        simp only [Array.getElem?_toList]
        congr 1
        omega
  have hst : Stp own w (w.setRow (G.bk s) new) := Stp.setRow _ hown
  have hrd : ∀ b o, St b o → rdW (w.setRow (G.bk s) new) b o = rdW w b o := fun b o hb' => rdW_of_block (setRow_other w _ b _ fun e => hsb o (e ▸ hb'))
  have hs : ∀ b o, St b o → St b o := fun _ _ h => h
  have mc : ∀ t k, (σ.upd (cellsW s j ls)).mem (.c t k) = if t = s ∧ j ≤ k then (match ls[k - j]? with | some l => .cell l | none => σ.mem (.c t k)) else σ.mem (.c t k) := fun t k => look_cellsW
  have mb : ∀ t, (σ.upd (cellsW s j ls)).mem (.b t) = σ.mem (.b t) := fun t => by simp only [VS.upd, look_cellsW_b]
  have ma : ∀ t, (σ.upd (cellsW s j ls)).mem (.a t) = σ.mem (.a t) := fun t => by simp only [VS.upd, look_cellsW_a]
  have mf : ∀ t, (σ.upd (cellsW s j ls)).mem (.f t) = σ.mem (.f t) := fun t => by simp only [VS.upd, look_cellsW_f]
  have my : (σ.upd (cellsW s j ls)).mem .y = σ.mem .y := by simp only [VS.upd, look, reduceCtorEq, if_false, look_cellsW_y, look_frzs_y]
  have mv : ∀ t, (σ.upd (cellsW s j ls)).mem (.v t) = σ.mem (.v t) := fun t => by simp only [VS.upd, look, reduceCtorEq, if_false, look_cellsW_v, look_frzs_v]
  generalize hσ : σ.upd (cellsW s j ls) = σ' at mb ma mf mc my mv
  have hget : σ'.get = σ.get := by rw [← hσ]; rfl
  have hrf : Refs σ.mem G σ'.mem G := {
    b := fun t n hb => ⟨by rw [mb]; exact hb, rfl⟩
    a := fun t g e es xs ha => ⟨g, e, es, xs, by rw [ma]; exact ha, .inr ⟨rfl, rfl, rfl, rfl⟩⟩ }
  have hbk : ∀ t, blkOf σ'.mem G t = blkOf σ.mem G t := fun t => by unfold blkOf; rw [mb, ma]
  exact {
    size := h.size, defs := h.defs.step hst fun _ h => h, dsq := h.dsq
    inv := by rw [my]; exact h.inv_step hst hrd
    st0 := h.st0, stn := fun b o hb => (h.stn b o hb).imp id fun h => .inl h
    stlt := fun b o hb => by simpa using h.stlt b o hb
    blt := by simpa using h.blt
    ownlt := fun b hb => by
      rcases hb with hb | ⟨p, q⟩
      · simpa using h.ownlt b hb
      · simp at q; omega
    glob := fun g cs hg => repA_mono hs hrd cs g 0 (h.glob g cs hg)
    slots := fun t => by rw [hget]; exact repLv_mono hrf hs hrd _ _ (h.slots t)
    virts := fun t l hb => by rw [mv] at hb; exact repLv_mono hrf hs hrd _ _ (h.virts t l hb)
    boxes := fun t n hb' => by
      rw [mb] at hb'
      by_cases ht : t = s
      · subst ht
        rw [hb] at hb'; cases hb'
        refine ⟨new, e, setRow_heap w _ cs new e (0, 0) hc, hnsz, fun k hk => ?_⟩
        rw [mc, hnget]
        by_cases hin : j ≤ k ∧ k < j + vs.length
        · have hk2 : k - j < ls.length := by omega
          have hk3 : k - j < vs.length := by omega
          refine ⟨ls[k - j], vs[k - j], by simp [hin.1, hk2], by simp [hin, hk3], ?_, h1 _ (List.getElem_mem _)⟩
          exact repLv_mono hrf hs hrd _ _ ((repLs_get.1 hv).2 (k - j) _ _ (by simp [hk2]) (by simp [hk3]))
        · obtain ⟨l, v, r1, r2, r3, r4⟩ := r k hk
          refine ⟨l, v, ?_, by rw [if_neg hin]; exact r2, repLv_mono hrf hs hrd _ _ r3, r4⟩
          by_cases hjk : j ≤ k
          · have : ls[k - j]? = none := by rw [List.getElem?_eq_none]; omega
            simp [hjk, this, r1]
          · simp [hjk, r1]
      · obtain ⟨cs', e', p, q, r⟩ := h.boxes t n hb'
        refine ⟨cs', e', ?_, q, fun k hk => ?_⟩
        · rw [setRow_other]
          · exact p
          · intro e0
            exact ht (h.disj t s _ (h.blkB hb') (e0 ▸ h.blkB hb))
        · obtain ⟨l, v, r1, r2, r3, r4⟩ := r k hk
          exact ⟨l, v, by rw [mc, if_neg fun e => ht e.1]; exact r1, r2, repLv_mono hrf hs hrd _ _ r3, r4⟩
    arrs := fun t g e' es xs ha => by
      rw [ma] at ha
      obtain ⟨h0, us, p, q⟩ := h.arrs t g e' es xs ha
      refine ⟨h0, us, ownsRow_block p fun b hv' => setRow_other w _ b _ fun e0 => ?_, repEs_mono hs hrd q⟩
      have h2 : blkOf σ.mem G t = some (G.bk s) := by rw [h.blkA ha, hv', e0]
      have := h.disj t s _ h2 (h.blkB hb)
      subst this
      exact h.both t m g e' es xs hb ha
    disj := fun t t' b hb hb' => by rw [hbk] at hb hb'; exact h.disj t t' b hb hb'
    both := fun t n g e' es xs hb ha => by rw [mb] at hb; rw [ma] at ha; exact h.both t n g e' es xs hb ha
    ownb := fun t b hb => by rw [hbk] at hb; exact .inl (h.ownb t b hb)
    sbox := fun t n hb hff => by rw [mb] at hb; rw [mf] at hff; exact h.sbox t n hb hff
    sarr := fun t g e' es xs b ha hv' => by rw [ma] at ha; rw [mf]; exact h.sarr t g e' es xs b ha hv' }

theorem RepD.newArr (h : RepD Γ X N ds σ a w G St own) {d : Nat} (hf : fresh σ d = true) {e : TypeId} {es : Nat} {xs : List V} {v : Value} {vs : List Value} (h0 : 0 < es)
    (ho : w.ownsRow 0 e es v xs.length vs) (he : repEs St (rdW w) es xs vs) (hb : ∀ b, v.ownBlock = some b → own b ∧ (∀ t, blkOf σ.mem G t ≠ some b) ∧ ∀ o, ¬ St b o) :
    RepD Γ X N ds (σ.upd [(.a d, .arr 0 e es xs), (.f d, .none)]) a w ⟨G.bk, fun t => if t = d then v else G.av t⟩ St own := by
  obtain ⟨hfb, hfa⟩ := fresh_iff.1 hf
  have mb : ∀ t, (σ.upd [(.a d, .arr 0 e es xs), (.f d, .none)]).mem (.b t) = σ.mem (.b t) := fun t => by simp only [VS.upd, look, reduceCtorEq, if_false]
  have mc : ∀ t j, (σ.upd [(.a d, .arr 0 e es xs), (.f d, .none)]).mem (.c t j) = σ.mem (.c t j) := fun t j => by simp only [VS.upd, look, reduceCtorEq, if_false]
  have ma : ∀ t, (σ.upd [(.a d, .arr 0 e es xs), (.f d, .none)]).mem (.a t) = if t = d then .arr 0 e es xs else σ.mem (.a t) := fun t => by simp only [VS.upd, look, Key.a.injEq, reduceCtorEq, if_false]
  have mf : ∀ t, (σ.upd [(.a d, .arr 0 e es xs), (.f d, .none)]).mem (.f t) = if t = d then .none else σ.mem (.f t) := fun t => by simp only [VS.upd, look, Key.f.injEq, reduceCtorEq, if_false]
  have my : (σ.upd [(.a d, .arr 0 e es xs), (.f d, .none)]).mem .y = σ.mem .y := by simp only [VS.upd, look, reduceCtorEq, if_false, look_cellsW_y, look_frzs_y]
  have mv : ∀ t, (σ.upd [(.a d, .arr 0 e es xs), (.f d, .none)]).mem (.v t) = σ.mem (.v t) := fun t => by simp only [VS.upd, look, reduceCtorEq, if_false, look_cellsW_v, look_frzs_v]
  generalize hσ : σ.upd [(.a d, .arr 0 e es xs), (.f d, .none)] = σ' at mb ma mf mc my mv
  have hget : σ'.get = σ.get := by rw [← hσ]; rfl
  have hrf : Refs σ.mem G σ'.mem ⟨G.bk, fun t => if t = d then v else G.av t⟩ := {
    b := fun t n hb => ⟨by rw [mb]; exact hb, rfl⟩
    a := fun t g e' es' xs' ha => by
      have : t ≠ d := fun e0 => by rw [e0, hfa] at ha; cases ha
      exact ⟨g, e', es', xs', by rw [ma, if_neg this]; exact ha, .inr ⟨rfl, rfl, rfl, by simp [this]⟩⟩ }
  have hs : ∀ b o, St b o → St b o := fun _ _ h => h
  have hrd : ∀ b o, St b o → rdW w b o = rdW w b o := fun _ _ _ => rfl
  have blk : ∀ t b, blkOf σ'.mem ⟨G.bk, fun t => if t = d then v else G.av t⟩ t = some b → (t = d ∧ v.ownBlock = some b) ∨ (t ≠ d ∧ blkOf σ.mem G t = some b) := fun t b hb => by
    unfold blkOf at hb
    rw [mb, ma] at hb
    by_cases ht : t = d
    · subst ht; rw [hfb] at hb; simp at hb; exact .inl ⟨rfl, hb⟩
    · refine .inr ⟨ht, ?_⟩
      unfold blkOf; simpa only [if_neg ht] using hb
  exact { h with
    inv := by rw [my]; exact h.inv
    slots := fun t => by rw [hget]; exact repLv_mono hrf hs hrd _ _ (h.slots t)
    virts := fun t l hb => by rw [mv] at hb; exact repLv_mono hrf hs hrd _ _ (h.virts t l hb)
    boxes := fun t n hb => by
      rw [mb] at hb
      obtain ⟨cs, e', p, q, r⟩ := h.boxes t n hb
      refine ⟨cs, e', p, q, fun j hj => ?_⟩
      obtain ⟨l, u, r1, r2, r3, r4⟩ := r j hj
      exact ⟨l, u, by rw [mc]; exact r1, r2, repLv_mono hrf hs hrd _ _ r3, r4⟩
    arrs := fun t g e' es' xs' ha => by
      rw [ma] at ha
      by_cases ht : t = d
      · subst ht
        simp at ha
        obtain ⟨rfl, rfl, rfl, rfl⟩ := ha
        exact ⟨h0, vs, by simpa using ho, he⟩
      · rw [if_neg ht] at ha
        simpa only [if_neg ht] using h.arrs t g e' es' xs' ha
    disj := fun t t' b hb1 hb2 => by
      rcases blk t b hb1 with ⟨p, q⟩ | ⟨p, q⟩ <;> rcases blk t' b hb2 with ⟨p', q'⟩ | ⟨p', q'⟩
      · rw [p, p']
      · exact ((hb b q).2.1 t' q').elim
      · exact ((hb b q').2.1 t q).elim
      · exact h.disj t t' b q q'
    both := fun t n g e' es' xs' hb1 ha => by
      rw [ma] at ha; rw [mb] at hb1
      by_cases ht : t = d
      · subst ht; rw [hfb] at hb1; cases hb1
      · rw [if_neg ht] at ha; exact h.both t n g e' es' xs' hb1 ha
    ownb := fun t b hb1 => by
      rcases blk t b hb1 with ⟨p, q⟩ | ⟨p, q⟩
      · exact (hb b q).1
      · exact h.ownb t b q
    sbox := fun t n hb1 hff => by
      rw [mb] at hb1; rw [mf] at hff
      have ht : t ≠ d := fun e0 => by rw [e0, hfb] at hb1; cases hb1
      rw [if_neg ht] at hff
      exact h.sbox t n hb1 hff
    sarr := fun t g e' es' xs' b ha hv => by
      rw [ma] at ha
      by_cases ht : t = d
      · subst ht
        simp only [if_true] at hv
        exact ⟨fun _ => (hb b hv).2.2, fun o _ => (hb b hv).2.2 o⟩
      · rw [if_neg ht] at ha
        simp only [if_neg ht] at hv
        rw [mf, if_neg ht]
        exact h.sarr t g e' es' xs' b ha hv }

theorem RepD.updArrX (h : RepD Γ X N ds σ a w G St own) {t0 g g2 es : Nat} {e : TypeId} {xs xs2 : List V} {v2 : Value} {vs2 : List Value} (ha0 : σ.mem (.a t0) = .arr g e es xs)
    (hg : w.grownBy w' (G.av t0).ownBlock) (ho : w'.ownsRow 0 e es v2 xs2.length vs2) (he : repEs St (rdW w) es xs2 vs2)
    (hst : ∀ b o, St b o → rdW w' b o = rdW w b o) (hl : xs.length ≤ xs2.length ∨ isNone (σ.mem (.f t0)) = true) (hgg : g < g2 ∨ (g2 = g ∧ xs.length = xs2.length ∧ v2 = G.av t0))
    (hb : ∀ b, v2.ownBlock = some b → (G.av t0).ownBlock = some b ∨ (w.heap.size ≤ b ∧ b < w'.heap.size)) :
    RepD Γ X N ds (σ.upd [(.a t0, .arr g2 e es xs2)]) a w' ⟨G.bk, fun t => if t = t0 then v2 else G.av t⟩ St (newOwn own w w') := by
  have h0 := (h.arrs t0 g e es xs ha0).1
  have hown : ∀ b, (G.av t0).ownBlock = some b → own b := fun b hb => h.ownb t0 b (by rw [h.blkA ha0]; exact hb)
  have hstp : Stp own w w' := ⟨hg.os, hg.tape, hg.output, hg.size, fun k hk hn => hg.block k hk fun e => hn (hown k e.symm)⟩
  have hoth : ∀ t b, t ≠ t0 → blkOf σ.mem G t = some b → w'.heap[b]? = w.heap[b]? := fun t b ht hbk => hg.block b (h.blk_lt hbk) fun e0 => ht (h.disj t t0 b hbk (by rw [h.blkA ha0]; exact e0.symm))
  have mb : ∀ t, (σ.upd [(.a t0, .arr g2 e es xs2)]).mem (.b t) = σ.mem (.b t) := fun t => by simp only [VS.upd, look, reduceCtorEq, if_false]
  have mc : ∀ t j, (σ.upd [(.a t0, .arr g2 e es xs2)]).mem (.c t j) = σ.mem (.c t j) := fun t j => by simp only [VS.upd, look, reduceCtorEq, if_false]
  have ma : ∀ t, (σ.upd [(.a t0, .arr g2 e es xs2)]).mem (.a t) = if t = t0 then .arr g2 e es xs2 else σ.mem (.a t) := fun t => by simp only [VS.upd, look, Key.a.injEq]
  have mf : ∀ t, (σ.upd [(.a t0, .arr g2 e es xs2)]).mem (.f t) = σ.mem (.f t) := fun t => by simp only [VS.upd, look, reduceCtorEq, if_false]
  have my : (σ.upd [(.a t0, .arr g2 e es xs2)]).mem .y = σ.mem .y := by simp only [VS.upd, look, reduceCtorEq, if_false, look_cellsW_y, look_frzs_y]
  have mv : ∀ t, (σ.upd [(.a t0, .arr g2 e es xs2)]).mem (.v t) = σ.mem (.v t) := fun t => by simp only [VS.upd, look, reduceCtorEq, if_false, look_cellsW_v, look_frzs_v]
  generalize hσ : σ.upd [(.a t0, .arr g2 e es xs2)] = σ' at mb ma mf mc my mv
  have hget : σ'.get = σ.get := by rw [← hσ]; rfl
  have hrf : Refs σ.mem G σ'.mem ⟨G.bk, fun t => if t = t0 then v2 else G.av t⟩ := {
    b := fun t n hb => ⟨by rw [mb]; exact hb, rfl⟩
    a := fun t g' e' es' xs' ha => by
      by_cases ht : t = t0
      · subst ht
        rw [ha0] at ha; cases ha
        refine ⟨g2, e, es, xs2, by rw [ma, if_pos rfl], ?_⟩
        rcases hgg with hgg | ⟨q1, q2, q3⟩
        · exact .inl hgg
        · exact .inr ⟨q1.symm, rfl, q2, by simp [q3]⟩
      · exact ⟨g', e', es', xs', by rw [ma, if_neg ht]; exact ha, .inr ⟨rfl, rfl, rfl, by simp [ht]⟩⟩ }
  have hs : ∀ b o, St b o → St b o := fun _ _ h => h
  have hnb : ∀ t n, σ.mem (.b t) = .box n → t ≠ t0 := fun t n hb e0 => h.both t0 n g e es xs (e0 ▸ hb) ha0
  have blk : ∀ t b, blkOf σ'.mem ⟨G.bk, fun t => if t = t0 then v2 else G.av t⟩ t = some b → (t = t0 ∧ v2.ownBlock = some b) ∨ (t ≠ t0 ∧ blkOf σ.mem G t = some b) := fun t b hb => by
    unfold blkOf at hb
    rw [mb, ma] at hb
    by_cases ht : t = t0
    · subst ht
      split at hb
      · rename_i n h1; exact (hnb t n h1 rfl).elim
      · simp at hb; exact .inl ⟨rfl, hb⟩
    · refine .inr ⟨ht, ?_⟩
      unfold blkOf; simpa only [if_neg ht] using hb
  exact {
    size := h.size, defs := h.defs.step hstp fun _ h => h, dsq := h.dsq
    inv := by rw [my]; exact h.inv_step hstp hst
    st0 := h.st0, stn := fun b o hb => (h.stn b o hb).imp id fun h => .inl h
    stlt := fun b o hb => Nat.lt_of_lt_of_le (h.stlt b o hb) hg.size
    blt := Nat.le_trans h.blt hg.size
    ownlt := fun b hb => by
      rcases hb with hb | ⟨p, q⟩
      · exact ⟨Nat.lt_of_lt_of_le (h.ownlt b hb).1 hg.size, (h.ownlt b hb).2⟩
      · exact ⟨q, Nat.le_trans h.blt p⟩
    glob := fun g cs hg => repA_mono hs hst cs g 0 (h.glob g cs hg)
    slots := fun t => by rw [hget]; exact repLv_mono hrf hs hst _ _ (h.slots t)
    virts := fun t l hb => by rw [mv] at hb; exact repLv_mono hrf hs hst _ _ (h.virts t l hb)
    boxes := fun t n hb => by
      rw [mb] at hb
      obtain ⟨cs, e', p, q, r⟩ := h.boxes t n hb
      refine ⟨cs, e', by rw [hoth t _ (hnb t n hb) (h.blkB hb)]; exact p, q, fun j hj => ?_⟩
      obtain ⟨l, u, r1, r2, r3, r4⟩ := r j hj
      exact ⟨l, u, by rw [mc]; exact r1, r2, repLv_mono hrf hs hst _ _ r3, r4⟩
    arrs := fun t g' e' es' xs' ha => by
      rw [ma] at ha
      by_cases ht : t = t0
      · subst ht
        simp at ha
        obtain ⟨rfl, rfl, rfl, rfl⟩ := ha
        exact ⟨h0, vs2, by simpa using ho, repEs_mono hs hst he⟩
      · rw [if_neg ht] at ha
        obtain ⟨h0', us, p, q⟩ := h.arrs t g' e' es' xs' ha
        refine ⟨h0', us, ?_, repEs_mono hs hst q⟩
        simp only [if_neg ht]
        exact ownsRow_block p fun b hv => hoth t b ht (by rw [h.blkA ha]; exact hv)
    disj := fun t t' b hb1 hb2 => by
      have key : ∀ t, t ≠ t0 → blkOf σ.mem G t = some b → v2.ownBlock = some b → False := fun t ht h1 h2 => by
        rcases hb b h2 with h3 | h3
        · exact ht (h.disj t t0 b h1 (by rw [h.blkA ha0]; exact h3))
        · have := h.blk_lt h1; omega
      rcases blk t b hb1 with ⟨p, q⟩ | ⟨p, q⟩ <;> rcases blk t' b hb2 with ⟨p', q'⟩ | ⟨p', q'⟩
      · rw [p, p']
      · exact (key t' p' q' q).elim
      · exact (key t p q q').elim
      · exact h.disj t t' b q q'
    both := fun t n g' e' es' xs' hb1 ha => by
      rw [ma] at ha; rw [mb] at hb1
      rw [if_neg (hnb t n hb1)] at ha
      exact h.both t n g' e' es' xs' hb1 ha
    ownb := fun t b hb1 => by
      rcases blk t b hb1 with ⟨p, q⟩ | ⟨p, q⟩
      · rcases hb b q with h3 | h3
        · exact .inl (hown b h3)
        · exact .inr h3
      · exact .inl (h.ownb t b q)
    sbox := fun t n hb1 hff => by
      rw [mb] at hb1; rw [mf] at hff
      exact h.sbox t n hb1 hff
    sarr := fun t g' e' es' xs' b ha hv => by
      rw [ma] at ha
      rw [mf]
      by_cases ht : t = t0
      · subst ht
        simp at ha
        obtain ⟨rfl, rfl, rfl, rfl⟩ := ha
        simp only [if_true] at hv
        rcases hb b hv with h3 | h3
        · obtain ⟨k1, k2⟩ := h.sarr t g e es xs b ha0 h3
          exact ⟨k1, fun o ho => hl.elim (fun hl => k2 o (Nat.le_trans (Nat.mul_le_mul_right _ hl) ho)) fun hf => k1 hf o⟩
        · exact ⟨fun _ o ho => by have := h.stlt b o ho; omega, fun o _ ho => by have := h.stlt b o ho; omega⟩
      · rw [if_neg ht] at ha
        simp only [if_neg ht] at hv
        exact h.sarr t g' e' es' xs' b ha hv }

theorem RepD.updArr (h : RepD Γ X N ds σ a w G St own) {t0 g g2 es : Nat} {e : TypeId} {xs xs2 : List V} {v2 : Value} {vs2 : List Value} (ha0 : σ.mem (.a t0) = .arr g e es xs)
    (hg : w.grownBy w' (G.av t0).ownBlock) (ho : w'.ownsRow 0 e es v2 xs2.length vs2) (he : repEs St (rdW w) es xs2 vs2)
    (hst : ∀ b o, St b o → rdW w' b o = rdW w b o) (hl : xs.length ≤ xs2.length) (hgg : g < g2 ∨ (g2 = g ∧ xs.length = xs2.length ∧ v2 = G.av t0))
    (hb : ∀ b, v2.ownBlock = some b → (G.av t0).ownBlock = some b ∨ (w.heap.size ≤ b ∧ b < w'.heap.size)) :
    RepD Γ X N ds (σ.upd [(.a t0, .arr g2 e es xs2)]) a w' ⟨G.bk, fun t => if t = t0 then v2 else G.av t⟩ St (newOwn own w w') :=
  h.updArrX ha0 hg ho he hst (.inl hl) hgg hb

theorem RepD.nameCell (h : RepD Γ X N ds σ a w G St own) {t0 j0 n0 : Nat} {l0 l1 : L} (_ : σ.mem (.b t0) = .box n0) (hc0 : σ.mem (.c t0 j0) = .cell l0) (hl : ∀ v, repLv σ.mem G St (rdW w) l0 v → repLv σ.mem G St (rdW w) l1 v) :
    RepD Γ X N ds (σ.upd [(.c t0 j0, .cell l1)]) a w G St own := by
  have mb : ∀ t, (σ.upd [(.c t0 j0, .cell l1)]).mem (.b t) = σ.mem (.b t) := fun t => by simp only [VS.upd, look, reduceCtorEq, if_false]
  have mc : ∀ t j, (σ.upd [(.c t0 j0, .cell l1)]).mem (.c t j) = if t = t0 ∧ j = j0 then .cell l1 else σ.mem (.c t j) := fun t j => by simp only [VS.upd, look, Key.c.injEq]
  have ma : ∀ t, (σ.upd [(.c t0 j0, .cell l1)]).mem (.a t) = σ.mem (.a t) := fun t => by simp only [VS.upd, look, reduceCtorEq, if_false]
  have mf : ∀ t, (σ.upd [(.c t0 j0, .cell l1)]).mem (.f t) = σ.mem (.f t) := fun t => by simp only [VS.upd, look, reduceCtorEq, if_false]
  have my : (σ.upd [(.c t0 j0, .cell l1)]).mem .y = σ.mem .y := by simp only [VS.upd, look, reduceCtorEq, if_false]
  have mv : ∀ t, (σ.upd [(.c t0 j0, .cell l1)]).mem (.v t) = σ.mem (.v t) := fun t => by simp only [VS.upd, look, reduceCtorEq, if_false]
  generalize hσ : σ.upd [(.c t0 j0, .cell l1)] = σ' at mb ma mf mc my mv
  have hget : σ'.get = σ.get := by rw [← hσ]; rfl
  have hrf : Refs σ.mem G σ'.mem G := {
    b := fun t n hb => ⟨by rw [mb]; exact hb, rfl⟩
    a := fun t g e es xs ha => ⟨g, e, es, xs, by rw [ma]; exact ha, .inr ⟨rfl, rfl, rfl, rfl⟩⟩ }
  have hs : ∀ b o, St b o → St b o := fun _ _ h => h
  have hrd : ∀ b o, St b o → rdW w b o = rdW w b o := fun _ _ _ => rfl
  have hbk : ∀ t, blkOf σ'.mem G t = blkOf σ.mem G t := fun t => by unfold blkOf; rw [mb, ma]
  exact { h with
    inv := by rw [my]; exact h.inv
    slots := fun t => by rw [hget]; exact repLv_mono hrf hs hrd _ _ (h.slots t)
    virts := fun t l hb => by rw [mv] at hb; exact repLv_mono hrf hs hrd _ _ (h.virts t l hb)
    boxes := fun t n hb => by
      rw [mb] at hb
      obtain ⟨cs, e', p, q, r⟩ := h.boxes t n hb
      refine ⟨cs, e', p, q, fun j hj => ?_⟩
      obtain ⟨l, u, r1, r2, r3, r4⟩ := r j hj
      by_cases ht : t = t0 ∧ j = j0
      · obtain ⟨rfl, rfl⟩ := ht
        rw [hc0] at r1; cases r1
        exact ⟨l1, u, by rw [mc]; simp, r2, repLv_mono hrf hs hrd _ _ (hl _ r3), r4⟩
      · exact ⟨l, u, by rw [mc, if_neg ht]; exact r1, r2, repLv_mono hrf hs hrd _ _ r3, r4⟩
    arrs := fun t g e es xs ha => by rw [ma] at ha; exact h.arrs t g e es xs ha
    disj := fun t t' b hb hb' => by rw [hbk] at hb hb'; exact h.disj t t' b hb hb'
    both := fun t n g e es xs hb ha => by rw [mb] at hb; rw [ma] at ha; exact h.both t n g e es xs hb ha
    ownb := fun t b hb => by rw [hbk] at hb; exact h.ownb t b hb
    sbox := fun t n hb hff => by rw [mb] at hb; rw [mf] at hff; exact h.sbox t n hb hff
    sarr := fun t g e es xs b ha hv => by rw [ma] at ha; rw [mf]; exact h.sarr t g e es xs b ha hv }

theorem ownsRow_nil (w : World) (e : TypeId) (es : Nat) : w.ownsRow 0 e es (.slice none 0 0) 0 [] := ⟨by simp, .inl ⟨rfl, rfl⟩⟩
theorem repEs_nil {rd : Nat → Nat → Option Value} {es : Nat} : repEs St rd es [] [] := ⟨by simp, fun i x h => by simp at h⟩

theorem RepD.moveArr (h : RepD Γ X N ds σ a w G St own) {t0 r0 g es : Nat} {e : TypeId} {xs : List V} (ha0 : σ.mem (.a t0) = .arr g e es xs) (hf0 : isNone (σ.mem (.f t0)) = true) (hne : t0 ≠ r0) (hbr : isNone (σ.mem (.b r0)) = true) :
    RepD Γ X N ds (σ.upd [(.a r0, .arr (genOf (σ.mem (.a r0))) e es xs), (.f r0, .none), (.a t0, .arr (g + 1) e es [])]) a w ⟨G.bk, fun t => if t = r0 then G.av t0 else if t = t0 then .slice none 0 0 else G.av t⟩ St own := by
  have hbr' := isNone_iff.1 hbr
  have h0 := (h.arrs t0 g e es xs ha0).1
  have hbt : ∀ n, σ.mem (.b t0) ≠ .box n := fun n hb => h.both t0 n g e es xs hb ha0
  generalize hwr : [(Key.a r0, M.arr (genOf (σ.mem (.a r0))) e es xs), (.f r0, .none), (.a t0, .arr (g + 1) e es [])] = wr
  have mb : ∀ t, (σ.upd wr).mem (.b t) = σ.mem (.b t) := fun t => by subst hwr; simp only [VS.upd, look, reduceCtorEq, if_false]
  have mc : ∀ t j, (σ.upd wr).mem (.c t j) = σ.mem (.c t j) := fun t j => by subst hwr; simp only [VS.upd, look, reduceCtorEq, if_false]
  have ma : ∀ t, (σ.upd wr).mem (.a t) = if t = r0 then .arr (genOf (σ.mem (.a r0))) e es xs else if t = t0 then .arr (g + 1) e es [] else σ.mem (.a t) := fun t => by subst hwr; simp only [VS.upd, look, Key.a.injEq, reduceCtorEq, if_false]
  have mf : ∀ t, (σ.upd wr).mem (.f t) = if t = r0 then .none else σ.mem (.f t) := fun t => by subst hwr; simp only [VS.upd, look, Key.f.injEq, reduceCtorEq, if_false]
  have my : (σ.upd wr).mem .y = σ.mem .y := by subst hwr; simp only [VS.upd, look, reduceCtorEq, if_false]
  have mv : ∀ t, (σ.upd wr).mem (.v t) = σ.mem (.v t) := fun t => by subst hwr; simp only [VS.upd, look, reduceCtorEq, if_false]
  generalize hσ : σ.upd wr = σ' at mb ma mf mc my mv
  have hget : σ'.get = σ.get := by rw [← hσ]; rfl
  have hrf : Refs σ.mem G σ'.mem ⟨G.bk, fun t => if t = r0 then G.av t0 else if t = t0 then .slice none 0 0 else G.av t⟩ := {
    b := fun t n hb => ⟨by rw [mb]; exact hb, rfl⟩
    a := fun t g' e' es' xs' ha => by
      by_cases ht : t = r0
      · subst ht
        refine ⟨_, e, es, xs, by rw [ma, if_pos rfl], .inl ?_⟩
        rw [ha]; simp [genOf]
      · by_cases ht2 : t = t0
        · subst ht2
          rw [ha0] at ha; cases ha
          exact ⟨_, e, es, [], by rw [ma, if_neg ht, if_pos rfl], .inl (by omega)⟩
        · exact ⟨g', e', es', xs', by rw [ma, if_neg ht, if_neg ht2]; exact ha, .inr ⟨rfl, rfl, rfl, by simp [ht, ht2]⟩⟩ }
  have hs : ∀ b o, St b o → St b o := fun _ _ h => h
  have hrd : ∀ b o, St b o → rdW w b o = rdW w b o := fun _ _ _ => rfl
  have blk : ∀ t b, blkOf σ'.mem ⟨G.bk, fun t => if t = r0 then G.av t0 else if t = t0 then .slice none 0 0 else G.av t⟩ t = some b → (t = r0 ∧ blkOf σ.mem G t0 = some b ∧ (G.av t0).ownBlock = some b) ∨ (t ≠ r0 ∧ t ≠ t0 ∧ blkOf σ.mem G t = some b) := fun t b hb => by
    unfold blkOf at hb
    rw [mb, ma] at hb
    by_cases ht : t = r0
    · subst ht
      simp only [hbr', if_true] at hb
      exact .inl ⟨rfl, by rw [h.blkA ha0]; exact hb, hb⟩
    · by_cases ht2 : t = t0
      · subst ht2
        split at hb
        · rename_i n h1; exact (hbt n h1).elim
        · simp [ht, Value.ownBlock] at hb
      · refine .inr ⟨ht, ht2, ?_⟩
        unfold blkOf; simpa only [if_neg ht, if_neg ht2] using hb
  exact { h with
    inv := by rw [my]; exact h.inv
    slots := fun t => by rw [hget]; exact repLv_mono hrf hs hrd _ _ (h.slots t)
    virts := fun t l hb => by rw [mv] at hb; exact repLv_mono hrf hs hrd _ _ (h.virts t l hb)
    boxes := fun t n hb => by
      rw [mb] at hb
      obtain ⟨cs, e', p, q, r⟩ := h.boxes t n hb
      refine ⟨cs, e', p, q, fun j hj => ?_⟩
      obtain ⟨l, u, r1, r2, r3, r4⟩ := r j hj
      exact ⟨l, u, by rw [mc]; exact r1, r2, repLv_mono hrf hs hrd _ _ r3, r4⟩
    arrs := fun t g' e' es' xs' ha => by
      rw [ma] at ha
      by_cases ht : t = r0
      · subst ht
        simp only [if_true] at ha
        cases ha
        simpa only [if_true] using h.arrs t0 g e es xs ha0
      · rw [if_neg ht] at ha
        by_cases ht2 : t = t0
        · subst ht2
          simp only [if_true] at ha
          cases ha
          simp only [if_neg ht, if_true]
          exact ⟨h0, [], ownsRow_nil w e es, repEs_nil⟩
        · rw [if_neg ht2] at ha
          simpa only [if_neg ht, if_neg ht2] using h.arrs t g' e' es' xs' ha
    disj := fun t t' b hb1 hb2 => by
      rcases blk t b hb1 with ⟨p, q, _⟩ | ⟨p, p2, q⟩ <;> rcases blk t' b hb2 with ⟨p', q', _⟩ | ⟨p', p2', q'⟩
      · rw [p, p']
      · exact (p2' (h.disj t' t0 b q' q)).elim
      · exact (p2 (h.disj t t0 b q q')).elim
      · exact h.disj t t' b q q'
    both := fun t n g' e' es' xs' hb1 ha => by
      rw [ma] at ha; rw [mb] at hb1
      by_cases ht : t = r0
      · subst ht; rw [hbr'] at hb1; cases hb1
      · rw [if_neg ht] at ha
        by_cases ht2 : t = t0
        · subst ht2; exact hbt n hb1
        · rw [if_neg ht2] at ha; exact h.both t n g' e' es' xs' hb1 ha
    ownb := fun t b hb1 => by
      rcases blk t b hb1 with ⟨p, q, _⟩ | ⟨p, p2, q⟩
      · exact h.ownb t0 b q
      · exact h.ownb t b q
    sbox := fun t n hb1 hff => by
      rw [mb] at hb1; rw [mf] at hff
      have ht : t ≠ r0 := fun e0 => by rw [e0, hbr'] at hb1; cases hb1
      rw [if_neg ht] at hff
      exact h.sbox t n hb1 hff
    sarr := fun t g' e' es' xs' b ha hv => by
      rw [ma] at ha
      by_cases ht : t = r0
      · subst ht
        simp only [if_true] at ha hv
        cases ha
        have := (h.sarr t0 g e es xs b ha0 hv).1 hf0
        exact ⟨fun _ => this, fun o _ => this o⟩
      · rw [if_neg ht] at ha
        simp only [if_neg ht] at hv
        by_cases ht2 : t = t0
        · subst ht2
          simp [Value.ownBlock] at hv
        · rw [if_neg ht2] at ha
          simp only [if_neg ht2] at hv
          rw [mf, if_neg ht]
          exact h.sarr t g' e' es' xs' b ha hv }

theorem RepD.dropArr (h : RepD Γ X N ds σ a w G St own) {t0 g es : Nat} {e : TypeId} {xs : List V} (ha0 : σ.mem (.a t0) = .arr g e es xs) :
    RepD Γ X N ds (σ.upd [(.a t0, .arr (g + 1) e es [])]) a w ⟨G.bk, fun t => if t = t0 then .slice none 0 0 else G.av t⟩ St own ∧ ∀ t b, blkOf (σ.upd [(.a t0, .arr (g + 1) e es [])]).mem ⟨G.bk, fun t => if t = t0 then .slice none 0 0 else G.av t⟩ t = some b → t ≠ t0 ∧ blkOf σ.mem G t = some b := by
  have h0 := (h.arrs t0 g e es xs ha0).1
  have hbt : ∀ n, σ.mem (.b t0) ≠ .box n := fun n hb => h.both t0 n g e es xs hb ha0
  have mb : ∀ t, (σ.upd [(.a t0, .arr (g + 1) e es [])]).mem (.b t) = σ.mem (.b t) := fun t => by simp only [VS.upd, look, reduceCtorEq, if_false]
  have mc : ∀ t j, (σ.upd [(.a t0, .arr (g + 1) e es [])]).mem (.c t j) = σ.mem (.c t j) := fun t j => by simp only [VS.upd, look, reduceCtorEq, if_false]
  have ma : ∀ t, (σ.upd [(.a t0, .arr (g + 1) e es [])]).mem (.a t) = if t = t0 then .arr (g + 1) e es [] else σ.mem (.a t) := fun t => by simp only [VS.upd, look, Key.a.injEq]
  have mf : ∀ t, (σ.upd [(.a t0, .arr (g + 1) e es [])]).mem (.f t) = σ.mem (.f t) := fun t => by simp only [VS.upd, look, reduceCtorEq, if_false]
  have my : (σ.upd [(.a t0, .arr (g + 1) e es [])]).mem .y = σ.mem .y := by simp only [VS.upd, look, reduceCtorEq, if_false]
  have mv : ∀ t, (σ.upd [(.a t0, .arr (g + 1) e es [])]).mem (.v t) = σ.mem (.v t) := fun t => by simp only [VS.upd, look, reduceCtorEq, if_false]
  generalize hσ : σ.upd [(.a t0, .arr (g + 1) e es [])] = σ' at mb ma mf mc my mv
  have hget : σ'.get = σ.get := by rw [← hσ]; rfl
  have hrf : Refs σ.mem G σ'.mem ⟨G.bk, fun t => if t = t0 then .slice none 0 0 else G.av t⟩ := {
    b := fun t n hb => ⟨by rw [mb]; exact hb, rfl⟩
    a := fun t g' e' es' xs' ha => by
      by_cases ht2 : t = t0
      · subst ht2
        rw [ha0] at ha; cases ha
        exact ⟨_, e, es, [], by rw [ma, if_pos rfl], .inl (by omega)⟩
      · exact ⟨g', e', es', xs', by rw [ma, if_neg ht2]; exact ha, .inr ⟨rfl, rfl, rfl, by simp [ht2]⟩⟩ }
  have hs : ∀ b o, St b o → St b o := fun _ _ h => h
  have hrd : ∀ b o, St b o → rdW w b o = rdW w b o := fun _ _ _ => rfl
  have blk : ∀ t b, blkOf σ'.mem ⟨G.bk, fun t => if t = t0 then .slice none 0 0 else G.av t⟩ t = some b → t ≠ t0 ∧ blkOf σ.mem G t = some b := fun t b hb => by
    unfold blkOf at hb
    rw [mb, ma] at hb
    by_cases ht2 : t = t0
    · subst ht2
      split at hb
      · rename_i n h1; exact (hbt n h1).elim
      · simp [Value.ownBlock] at hb
    · refine ⟨ht2, ?_⟩
      unfold blkOf; simpa only [if_neg ht2] using hb
  refine ⟨{ h with
    inv := by rw [my]; exact h.inv
    slots := fun t => by rw [hget]; exact repLv_mono hrf hs hrd _ _ (h.slots t)
    virts := fun t l hb => by rw [mv] at hb; exact repLv_mono hrf hs hrd _ _ (h.virts t l hb)
    boxes := fun t n hb => by
      rw [mb] at hb
      obtain ⟨cs, e', p, q, r⟩ := h.boxes t n hb
      refine ⟨cs, e', p, q, fun j hj => ?_⟩
      obtain ⟨l, u, r1, r2, r3, r4⟩ := r j hj
      exact ⟨l, u, by rw [mc]; exact r1, r2, repLv_mono hrf hs hrd _ _ r3, r4⟩
    arrs := fun t g' e' es' xs' ha => by
      rw [ma] at ha
      by_cases ht2 : t = t0
      · subst ht2
        simp only [if_true] at ha
        cases ha
        simp only [if_true]
        exact ⟨h0, [], ownsRow_nil w e es, repEs_nil⟩
      · rw [if_neg ht2] at ha
        simpa only [if_neg ht2] using h.arrs t g' e' es' xs' ha
    disj := fun t t' b hb1 hb2 => h.disj t t' b (blk t b hb1).2 (blk t' b hb2).2
    both := fun t n g' e' es' xs' hb1 ha => by
      rw [ma] at ha; rw [mb] at hb1
      by_cases ht2 : t = t0
      · subst ht2; exact hbt n hb1
      · rw [if_neg ht2] at ha; exact h.both t n g' e' es' xs' hb1 ha
    ownb := fun t b hb1 => h.ownb t b (blk t b hb1).2
    sbox := fun t n hb1 hff => by
      rw [mb] at hb1; rw [mf] at hff
      exact h.sbox t n hb1 hff
    sarr := fun t g' e' es' xs' b ha hv => by
      rw [ma] at ha
      by_cases ht2 : t = t0
      · subst ht2
        simp [Value.ownBlock] at hv
      · rw [if_neg ht2] at ha
        simp only [if_neg ht2] at hv
        rw [mf]
        exact h.sarr t g' e' es' xs' b ha hv }, blk⟩

theorem RepD.extO (h : RepD Γ X N ds σ a w G St own) {O : Nat → Prop} (hs : Stp O w w') (hO : ∀ b, O b → own b ∧ (∀ t, blkOf σ.mem G t ≠ some b) ∧ ∀ o, ¬ St b o) : RepD Γ X N ds σ a w' G St (newOwn own w w') := by
  have hrd : ∀ b o, St b o → rdW w' b o = rdW w b o := fun b o hb => rdW_of_block (hs.block b (h.stlt b o hb) fun ho => (hO b ho).2.2 o hb)
  have hbl : ∀ t b, blkOf σ.mem G t = some b → w'.heap[b]? = w.heap[b]? := fun t b hb => hs.block b (h.blk_lt hb) fun ho => (hO b ho).2.1 t hb
  have hrf := Refs.refl σ.mem G
  have h1 : ∀ b o, St b o → St b o := fun _ _ h => h
  exact {
    size := h.size, defs := h.defs.step hs fun b hb => (hO b hb).1, dsq := h.dsq
    inv := h.inv_step (hs.mono fun b hb => (hO b hb).1) hrd
    st0 := h.st0, stn := fun b o hb => (h.stn b o hb).imp id fun h => .inl h
    stlt := fun b o hb => Nat.lt_of_lt_of_le (h.stlt b o hb) hs.size
    blt := Nat.le_trans h.blt hs.size
    ownlt := fun b hb => by
      rcases hb with hb | ⟨p, q⟩
      · exact ⟨Nat.lt_of_lt_of_le (h.ownlt b hb).1 hs.size, (h.ownlt b hb).2⟩
      · exact ⟨q, Nat.le_trans h.blt p⟩
    glob := fun g cs hg => repA_mono h1 hrd cs g 0 (h.glob g cs hg)
    slots := fun t => repLv_mono hrf h1 hrd _ _ (h.slots t)
    virts := fun t l hb => repLv_mono hrf h1 hrd _ _ (h.virts t l hb)
    boxes := fun t n hb => by
      obtain ⟨cs, e, p, q, r⟩ := h.boxes t n hb
      refine ⟨cs, e, by rw [hbl t _ (h.blkB hb)]; exact p, q, fun j hj => ?_⟩
      obtain ⟨l, v, r1, r2, r3, r4⟩ := r j hj
      exact ⟨l, v, r1, r2, repLv_mono hrf h1 hrd _ _ r3, r4⟩
    arrs := fun t g e es xs hb => by
      obtain ⟨h0, vs, p, q⟩ := h.arrs t g e es xs hb
      exact ⟨h0, vs, ownsRow_block p fun b hv => hbl t b (by rw [h.blkA hb]; exact hv), repEs_mono h1 hrd q⟩
    disj := h.disj, both := h.both
    ownb := fun t b hb => .inl (h.ownb t b hb)
    sbox := h.sbox, sarr := h.sarr }

def stF (σ : VS) (G : GG) (St : Nat → Nat → Prop) (fz : List Nat) (b o : Nat) : Prop :=
  St b o ∨ ∃ t, t ∈ fz ∧ ((∃ n, σ.mem (.b t) = .box n ∧ b = G.bk t) ∨ ∃ g e es xs, σ.mem (.a t) = .arr g e es xs ∧ (G.av t).ownBlock = some b ∧ o < xs.length * es)

theorem look_frzs_f {fz : List Nat} {t : Nat} {m : M} : look (.f t) m (frzs fz) = if t ∈ fz then .frz else m := by
  induction fz with
  | nil => simp [frzs, look]
  | cons x xs ih =>
    simp only [frzs, List.map_cons, look, Key.f.injEq, List.mem_cons] at ih ⊢
    by_cases h : t = x
    · simp [h]
    · rw [if_neg h, ih]; simp [h]
theorem look_frzs {fz : List Nat} {k : Key} {m : M} (hk : ∀ t, k ≠ .f t) : look k m (frzs fz) = m := by
  induction fz with
  | nil => rfl
  | cons x xs ih => simp only [frzs, List.map_cons, look] at ih ⊢; rw [if_neg (hk x)]; exact ih

theorem RepD.frz (h : RepD Γ X N ds σ a w G St own) (fz : List Nat) : RepD Γ X N ds (σ.upd (frzs fz)) a w G (stF σ G St fz) own := by
  have mb : ∀ t, (σ.upd (frzs fz)).mem (.b t) = σ.mem (.b t) := fun t => look_frzs (by simp)
  have mc : ∀ t j, (σ.upd (frzs fz)).mem (.c t j) = σ.mem (.c t j) := fun t j => look_frzs (by simp)
  have ma : ∀ t, (σ.upd (frzs fz)).mem (.a t) = σ.mem (.a t) := fun t => look_frzs (by simp)
  have mf : ∀ t, (σ.upd (frzs fz)).mem (.f t) = if t ∈ fz then .frz else σ.mem (.f t) := fun t => look_frzs_f
  have my : (σ.upd (frzs fz)).mem .y = σ.mem .y := by simp only [VS.upd, look, reduceCtorEq, if_false, look_cellsW_y, look_frzs_y]
  have mv : ∀ t, (σ.upd (frzs fz)).mem (.v t) = σ.mem (.v t) := fun t => by simp only [VS.upd, look, reduceCtorEq, if_false, look_cellsW_v, look_frzs_v]
  generalize hσ : σ.upd (frzs fz) = σ' at mb ma mf mc my mv
  have hget : σ'.get = σ.get := by rw [← hσ]; rfl
  have hrf : Refs σ.mem G σ'.mem G := {
    b := fun t n hb => ⟨by rw [mb]; exact hb, rfl⟩
    a := fun t g e es xs ha => ⟨g, e, es, xs, by rw [ma]; exact ha, .inr ⟨rfl, rfl, rfl, rfl⟩⟩ }
  have hs : ∀ b o, St b o → stF σ G St fz b o := fun _ _ h => .inl h
  have hrd : ∀ b o, St b o → rdW w b o = rdW w b o := fun _ _ _ => rfl
  have hbk : ∀ t, blkOf σ'.mem G t = blkOf σ.mem G t := fun t => by unfold blkOf; rw [mb, ma]
  have hF : ∀ b o, stF σ G St fz b o → St b o ∨ ∃ t, t ∈ fz ∧ blkOf σ.mem G t = some b ∧ ∀ g e es xs, σ.mem (.a t) = .arr g e es xs → o < xs.length * es := fun b o hb => by
    rcases hb with hb | ⟨t, ht, ⟨n, p, q⟩ | ⟨g, e, es, xs, p, q, r⟩⟩
    · exact .inl hb
    · exact .inr ⟨t, ht, by rw [h.blkB p, q], fun g e es xs p' => (h.both t n g e es xs p p').elim⟩
    · exact .inr ⟨t, ht, by rw [h.blkA p, q], fun g' e' es' xs' p' => by rw [p] at p'; cases p'; exact r⟩
  exact {
    size := h.size, defs := h.defs, dsq := h.dsq, inv := by rw [my]; exact h.inv_more hs
    st0 := fun b o hb => .inl (h.st0 b o hb)
    stn := fun b o hb => by
      rcases hF b o hb with hb | ⟨t, _, q, _⟩
      · exact h.stn b o hb
      · exact .inr (h.ownb t b q)
    stlt := fun b o hb => by
      rcases hF b o hb with hb | ⟨t, _, q, _⟩
      · exact h.stlt b o hb
      · exact h.blk_lt q
    blt := h.blt, ownlt := h.ownlt
    glob := fun g cs hg => repA_mono hs hrd cs g 0 (h.glob g cs hg)
    slots := fun t => by rw [hget]; exact repLv_mono hrf hs hrd _ _ (h.slots t)
    virts := fun t l hb => by rw [mv] at hb; exact repLv_mono hrf hs hrd _ _ (h.virts t l hb)
    boxes := fun t n hb => by
      rw [mb] at hb
      obtain ⟨cs, e', p, q, r⟩ := h.boxes t n hb
      refine ⟨cs, e', p, q, fun j hj => ?_⟩
      obtain ⟨l, u, r1, r2, r3, r4⟩ := r j hj
      exact ⟨l, u, by rw [mc]; exact r1, r2, repLv_mono hrf hs hrd _ _ r3, r4⟩
    arrs := fun t g e es xs ha => by
      rw [ma] at ha
      obtain ⟨h0, us, p, q⟩ := h.arrs t g e es xs ha
      exact ⟨h0, us, p, repEs_mono hs hrd q⟩
    disj := fun t t' b hb hb' => by rw [hbk] at hb hb'; exact h.disj t t' b hb hb'
    both := fun t n g e es xs hb ha => by rw [mb] at hb; rw [ma] at ha; exact h.both t n g e es xs hb ha
    ownb := fun t b hb => by rw [hbk] at hb; exact h.ownb t b hb
    sbox := fun t n hb hff o ho => by
      rw [mb] at hb; rw [mf] at hff
      have ht : t ∉ fz := fun hm => by simp [hm, isNone] at hff
      rw [if_neg ht] at hff
      rcases hF _ o ho with ho | ⟨t', hm, q, _⟩
      · exact h.sbox t n hb hff o ho
      · exact ht (h.disj t t' _ (h.blkB hb) q ▸ hm)
    sarr := fun t g e es xs b ha hv => by
      rw [ma] at ha
      refine ⟨fun hff o ho => ?_, fun o hlo ho => ?_⟩
      · rw [mf] at hff
        have ht : t ∉ fz := fun hm => by simp [hm, isNone] at hff
        rw [if_neg ht] at hff
        rcases hF _ o ho with ho | ⟨t', hm, q, _⟩
        · exact (h.sarr t g e es xs b ha hv).1 hff o ho
        · exact ht (h.disj t t' _ (by rw [h.blkA ha]; exact hv) q ▸ hm)
      · rcases hF _ o ho with ho | ⟨t', hm, q, r⟩
        · exact (h.sarr t g e es xs b ha hv).2 o hlo ho
        · have := h.disj t t' _ (by rw [h.blkA ha]; exact hv) q
          subst this
          have := r g e es xs ha
          omega }
end Go.Vm

namespace Go.Vm
variable {Γ : Nat → Option (List V)} {X : Ctx} {N : Nat} {ds : List Deferred} {σ : VS} {a : Act} {w w' : World} {G G' : GG} {St St' : Nat → Nat → Prop} {own : Nat → Prop} {P : Program}

theorem curA_some {t g : Nat} {q : (TypeId × Nat) × List V} (h : curA σ t g = some q) : σ.mem (.a t) = .arr g q.1.1 q.1.2 q.2 := by
  unfold curA at h
  split at h
  · rename_i g' e es xs hm
    split at h
    · rename_i hg; cases h; rw [hm, hg]
    · cases h
  · cases h
theorem boxN_some {t n : Nat} (h : boxN σ t = some n) : σ.mem (.b t) = .box n := by
  unfold boxN at h
  split at h
  · rename_i m hm; cases h; exact hm
  · cases h
theorem cellOf_some {t j : Nat} {l : L} (h : cellOf σ t j = some l) : σ.mem (.c t j) = .cell l := by
  unfold cellOf at h
  split at h
  · rename_i m hm; cases h; exact hm
  · cases h
theorem cellsOf_get {t : Nat} : ∀ {n j : Nat} {ls : List L}, cellsOf σ t j n = some ls → ls.length = n ∧ ∀ i l, ls[i]? = some l → σ.mem (.c t (j + i)) = .cell l
  | 0, j, ls, h => by simp only [cellsOf] at h; cases h; exact ⟨rfl, fun i l h => by simp at h⟩
  | n + 1, j, ls, h => by
    simp only [cellsOf] at h
    split at h
    · rename_i l hl
      obtain ⟨r, hr, rfl⟩ := Option.map_eq_some_iff.1 h
      obtain ⟨h1, h2⟩ := cellsOf_get hr
      refine ⟨by simp [h1], fun i l' hi => ?_⟩
      cases i with
      | zero => simp at hi; subst hi; exact cellOf_some hl
      | succ i => have := h2 i l' (by simpa using hi); rwa [Nat.add_right_comm, Nat.add_assoc] at this
    · cases h

theorem RepD.arrVal (_ : RepD Γ X N ds σ a w G St own) {t g es : Nat} {e : TypeId} {xs : List V} (hm : σ.mem (.a t) = .arr g e es xs) {v : Value} (hv : repLv σ.mem G St (rdW w) (.arr t g) v) : v = G.av t := by
  simp only [repLv] at hv
  obtain ⟨g', e', es', xs', p, q, r0, r⟩ := hv
  rw [hm] at p; cases p
  exact r rfl

theorem take_get {cs : Array Value} {n i : Nat} {l : List Value} (h : cs.toList.take n = l) (hi : i < l.length) : cs[i]? = l[i]? := by
  subst h
  simp only [List.length_take, Array.length_toList] at hi
  rw [List.getElem?_take_of_lt (by omega)]; simp

theorem RepD.pubArr (h : RepD Γ X N ds σ a w G St own) {t g es : Nat} {e : TypeId} {xs : List V} (hm : σ.mem (.a t) = .arr g e es xs) {fz : List Nat} (hf : t ∈ fz) : rep (stF σ G St fz) (rdW w) (.sl xs) (G.av t) := by
  obtain ⟨h0, vs, ⟨hlen, ho⟩, hl, hx⟩ := h.arrs t g e es xs hm
  rcases ho with ⟨hv, hn⟩ | ⟨blk, cap, cur, hv, _, hb, hnc, _, _, hcur⟩
  · rw [hv]
    refine ⟨?_, rfl⟩
    simp only [repC]
    exact .inl ⟨List.eq_nil_of_length_eq_zero hn, none, 0, rfl⟩
  · have hst : ∀ o, o < xs.length * es → stF σ G St fz blk o := fun o ho => .inr ⟨t, hf, .inr ⟨g, e, es, xs, hm, by rw [hv]; rfl, ho⟩⟩
    rw [hv]
    refine ⟨?_, rfl⟩
    simp only [repC]
    refine .inr ⟨blk, 0, cap, es, rfl, hnc, repE_get.2 fun i x hi => ?_⟩
    have hxi := hx i x hi
    have hil : i < xs.length := (List.getElem?_eq_some_iff.1 hi).1
    have hle : i * es + es ≤ xs.length * es := by rw [← Nat.succ_mul]; exact Nat.mul_le_mul_right _ hil
    refine ⟨(vs.drop (i * es)).take es, by simp; omega, cellsAt_get.2 fun j v hj => ?_, repC_mono (fun b o h => .inl h) (fun _ _ _ => rfl) _ _ hxi⟩
    have hj' : j < es := by
      have := (List.getElem?_eq_some_iff.1 hj).1
      simp at this; omega
    rw [List.getElem?_take_of_lt hj', List.getElem?_drop] at hj
    refine ⟨?_, hst _ (by omega)⟩
    have h3 : cur[i * es + j]? = some v := by rw [take_get hcur (by omega)]; exact hj
    simp only [rdW, World.cell?, hb, Nat.zero_add]
    simpa using h3

theorem RepD.pubA (h : RepD Γ X N ds σ a w G St own) {l : L} {q : Pub} (hq : Vm.pubA σ l = some q) {v : Value} (hv : repLv σ.mem G St (rdW w) l v) {fz : List Nat} (hf : ∀ t ∈ q.fz, t ∈ fz) :
    rep (stF σ G St fz) (rdW w) q.v v := by
  have hs : ∀ b o, St b o → stF σ G St fz b o := fun _ _ h => .inl h
  have hrd : ∀ b o, St b o → rdW w b o = rdW w b o := fun _ _ _ => rfl
  cases l with
  | p x => simp only [Vm.pubA, Option.some.injEq] at hq; subst hq; simp only [repLv] at hv; exact rep_mono hs hrd hv
  | nilS =>
    simp only [Vm.pubA, Option.some.injEq] at hq; subst hq; simp only [repLv] at hv; subst hv
    refine ⟨?_, rfl⟩; simp only [repC]; exact .inl ⟨trivial, _, _, rfl⟩
  | e0 =>
    simp only [Vm.pubA, Option.some.injEq] at hq; subst hq; simp only [repLv] at hv
    obtain ⟨a0, rfl⟩ := hv
    refine ⟨?_, rfl⟩; simp only [repC]; exact .inl ⟨trivial, _, _, rfl⟩
  | arr t g =>
    simp only [Vm.pubA] at hq
    obtain ⟨q', hc, rfl⟩ := Option.map_eq_some_iff.1 hq
    have hm := curA_some hc
    rw [h.arrVal hm hv]
    exact h.pubArr hm (hf t (by simp))
  | em b =>
    simp only [Vm.pubA, Option.some.injEq] at hq; subst hq; simp only [repLv] at hv
    obtain ⟨a0, c0, rfl, _⟩ := hv
    refine ⟨?_, rfl⟩; simp only [repC]; exact .inl ⟨trivial, _, _, rfl⟩
  | _ => simp [Vm.pubA] at hq

theorem pubWith_nil {f : L → Option Pub} : pubWith f [] = some ⟨[], [], []⟩ := rfl
theorem pubWith_cons {f : L → Option Pub} {l : L} {r : List L} {q : Pubs} (h : pubWith f (l :: r) = some q) : ∃ q1 q2, f l = some q1 ∧ pubWith f r = some q2 ∧ q = ⟨q1.v :: q2.vs, q1.rd ++ q2.rd, q1.fz ++ q2.fz⟩ := by
  simp only [pubWith] at h
  split at h
  · rename_i q1 h1
    obtain ⟨q2, h2, rfl⟩ := Option.map_eq_some_iff.1 h
    exact ⟨q1, q2, h1, h2, rfl⟩
  · cases h

theorem oneCell_of_plain {v : Value} (h : plainCell v = true) : v.oneCell' = true := by cases v <;> first | rfl | simp [plainCell] at h
theorem isAgg_of_one {v : Value} (h : v.oneCell' = true) : Value.isAgg v = false := by cases v <;> first | rfl | simp [Value.oneCell'] at h
theorem cells_of_one {v : Value} (h : v.oneCell' = true) : v.cells.toList = [v] := by cases v <;> first | rfl | simp [Value.oneCell'] at h

theorem isCell_one {mem : Key → M} {rd : Nat → Nat → Option Value} {l : L} (hl : l.isCell = true) {v : Value} (hv : repLv mem G St rd l v) : v.oneCell' = true := by
  cases l with
  | p x =>
    simp only [repLv] at hv
    have hx : x.isAgg = false := by cases x <;> first | rfl | simp [L.isCell] at hl
    have ha : Value.isAgg v = false := hv.2.trans hx
    have hc : v.cells.toList = [v] := by cases v <;> first | rfl | simp [Value.isAgg] at ha
    exact oneCell_of_plain (repC_plain x _ hv.1 v (by rw [hc]; simp))
  | nilS => simp only [repLv] at hv; subst hv; rfl
  | e0 => simp only [repLv] at hv; obtain ⟨a0, rfl⟩ := hv; rfl
  | own t j => simp only [repLv] at hv; rw [hv.1]; rfl
  | arr t g => simp only [repLv] at hv; obtain ⟨_, _, _, _, _, _, r, _⟩ := hv; exact r
  | bsl t => simp only [repLv] at hv; obtain ⟨_, _, rfl⟩ := hv; rfl
  | em b => simp only [repLv] at hv; obtain ⟨_, _, rfl, _⟩ := hv; rfl
  | _ => simp [L.isCell] at hl
theorem pubA_cell {l : L} {q : Pub} (hl : l.isCell = true) (hq : pubA σ l = some q) : q.v.isAgg = false := by
  cases l with
  | p x => simp only [pubA, Option.some.injEq] at hq; subst hq; cases x <;> first | rfl | simp [L.isCell] at hl
  | nilS => simp only [pubA, Option.some.injEq] at hq; subst hq; rfl
  | e0 => simp only [pubA, Option.some.injEq] at hq; subst hq; rfl
  | arr t g => simp only [pubA] at hq; obtain ⟨q', _, rfl⟩ := Option.map_eq_some_iff.1 hq; rfl
  | em b => simp only [pubA, Option.some.injEq] at hq; subst hq; rfl
  | _ => simp [pubA] at hq

theorem RepD.pubCellsA (h : RepD Γ X N ds σ a w G St own) : ∀ {ls : List L} {q : Pubs} {vs : List Value}, ls.all L.isCell = true → pubWith (Vm.pubA σ) ls = some q → repLs σ.mem G St (rdW w) ls vs → ∀ {fz : List Nat}, (∀ t ∈ q.fz, t ∈ fz) →
    repL (stF σ G St fz) (rdW w) q.vs vs
  | [], q, vs, _, hq, hv, fz, _ => by
    rw [pubWith_nil] at hq; cases hq; simp only [repLs] at hv; subst hv; simp only [repL]
  | l :: r, q, vs, hl, hq, hv, fz, hf => by
    obtain ⟨q1, q2, h1, h2, rfl⟩ := pubWith_cons hq
    simp only [List.all_cons, Bool.and_eq_true] at hl
    simp only [repLs] at hv
    obtain ⟨v, u, rfl, hv1, hv2⟩ := hv
    simp only [repL]
    have h3 := h.pubA h1 hv1 (fz := fz) fun t ht => hf t (List.mem_append_left _ ht)
    refine ⟨v, u, rfl, ⟨pubA_cell hl.1 h1, ?_⟩, h.pubCellsA hl.2 h2 hv2 fun t ht => hf t (List.mem_append_right _ ht)⟩
    have := h3.1
    rwa [cells_of_one (isCell_one hl.1 hv1)] at this

theorem RepD.boxVals (h : RepD Γ X N ds σ a w G St own) {t m : Nat} (hb : σ.mem (.b t) = .box m) {j n : Nat} {ls : List L} (hl : cellsOf σ t j n = some ls) (hj : j + n ≤ m) :
    ∃ cs e vs, w.heap[G.bk t]? = some (.cells cs e (0, 0)) ∧ cs.size = m ∧ vs.length = n ∧ (∀ i v, vs[i]? = some v → cs[j + i]? = some v ∧ v.oneCell' = true) ∧ repLs σ.mem G St (rdW w) ls vs := by
  obtain ⟨cs, e, p, q, r⟩ := h.boxes t m hb
  obtain ⟨hn, hc⟩ := cellsOf_get hl
  have hg : ∀ i v, ((cs.toList.drop j).take n)[i]? = some v → i < n ∧ cs[j + i]? = some v := fun i v hi => by
    have hin : i < n := by have := (List.getElem?_eq_some_iff.1 hi).1; simp at this; omega
    rw [List.getElem?_take_of_lt hin, List.getElem?_drop] at hi
    exact ⟨hin, by simpa using hi⟩
  refine ⟨cs, e, (cs.toList.drop j).take n, p, q, by simp; omega, fun i v hi => ?_, repLs_get.2 ⟨by simp; omega, fun i l v hli hvi => ?_⟩⟩
  · obtain ⟨h1, h2⟩ := hg i v hi
    obtain ⟨l, v', _, r2, _, r4⟩ := r (j + i) (by omega)
    rw [h2] at r2; cases r2
    exact ⟨h2, r4⟩
  · obtain ⟨h1, h2⟩ := hg i v hvi
    obtain ⟨l', v', r1, r2, r3, _⟩ := r (j + i) (by omega)
    rw [h2] at r2; cases r2
    rw [hc i l hli] at r1; cases r1
    exact r3

theorem repL_get {rd : Nat → Nat → Option Value} : ∀ {xs : List V} {vs : List Value}, repL St rd xs vs → ∀ (i : Nat) (x : V), xs[i]? = some x → ∃ v, vs[i]? = some v ∧ x.isAgg = false ∧ repC St rd x [v]
  | [], _, _, i, x, h => by simp at h
  | c :: cs, l, h, i, x, hi => by
    simp only [repL] at h
    obtain ⟨v, r, rfl, ⟨p1, p2⟩, q⟩ := h
    cases i with
    | zero => simp at hi; subst hi; exact ⟨v, rfl, p1, p2⟩
    | succ i => obtain ⟨u, hu, hr⟩ := repL_get q i x (by simpa using hi); exact ⟨u, by simpa using hu, hr⟩
theorem RepD.pubB (h : RepD Γ X N ds σ a w G St own) {t : Nat} {q : Pub} (hq : Vm.pubB σ t = some q) {v : Value} (hv : repLv σ.mem G St (rdW w) (.bsl t) v) {fz : List Nat} (hf : ∀ t ∈ q.fz, t ∈ fz) :
    rep (stF σ G St fz) (rdW w) q.v v := by
  unfold Vm.pubB at hq
  obtain ⟨n, hn, hq⟩ := Option.bind_eq_some_iff.1 hq
  obtain ⟨ls, hls, hq⟩ := Option.bind_eq_some_iff.1 hq
  split at hq
  · rename_i hc
    obtain ⟨q', hq', rfl⟩ := Option.map_eq_some_iff.1 hq
    have hb := boxN_some hn
    obtain ⟨cs, e, vs, p1, p2, p3, p4, p5⟩ := h.boxVals hb hls (by omega)
    simp only [repLv] at hv
    obtain ⟨n', hb', rfl⟩ := hv
    rw [hb] at hb'; cases hb'
    have hL := h.pubCellsA hc hq' p5 (fz := fz) fun t ht => hf t (by simp [ht])
    have hlen : q'.vs.length = n := by rw [← repL_len _ _ hL, p3]
    refine ⟨?_, rfl⟩
    simp only [repC, hlen]
    refine .inr ⟨G.bk t, 0, n, 1, rfl, Nat.le_refl _, repE_get.2 fun i x hi => ?_⟩
    have hin : i < n := by rw [← hlen]; exact (List.getElem?_eq_some_iff.1 hi).1
    have hiv : i < vs.length := by omega
    obtain ⟨v, hv, _, hx⟩ := repL_get hL i x hi
    refine ⟨[v], rfl, cellsAt_get.2 fun j u hj => ?_, hx⟩
    cases j with
    | succ j => simp at hj
    | zero =>
      simp at hj; subst hj
      refine ⟨?_, .inr ⟨t, hf t (by simp), .inl ⟨n, hb, rfl⟩⟩⟩
      have := (p4 i v hv).1
      simp only [rdW, World.cell?, p1, Nat.zero_add, Nat.mul_one, Nat.add_zero] at this ⊢
      simpa using this
  · cases hq
theorem RepD.pub0 (h : RepD Γ X N ds σ a w G St own) {l : L} {q : Pub} (hq : Vm.pub0 σ l = some q) {v : Value} (hv : repLv σ.mem G St (rdW w) l v) {fz : List Nat} (hf : ∀ t ∈ q.fz, t ∈ fz) :
    rep (stF σ G St fz) (rdW w) q.v v := by
  cases l with
  | bsl t => exact h.pubB hq hv hf
  | _ => exact h.pubA (by simpa only [Vm.pub0, Vm.pubA] using hq) hv hf
theorem pub0ucell {l : L} {q : Pub} (hl : l.isCell = true) (hq : pub0 σ l = some q) : q.v.isAgg = false := by
  cases l with
  | p x => simp only [pub0, Option.some.injEq] at hq; subst hq; cases x <;> first | rfl | simp [L.isCell] at hl
  | nilS => simp only [pub0, Option.some.injEq] at hq; subst hq; rfl
  | e0 => simp only [pub0, Option.some.injEq] at hq; subst hq; rfl
  | arr t g => simp only [pub0] at hq; obtain ⟨q', _, rfl⟩ := Option.map_eq_some_iff.1 hq; rfl
  | em b => simp only [pub0, Option.some.injEq] at hq; subst hq; rfl
  | bsl t =>
    simp only [pub0, pubB] at hq
    obtain ⟨n, _, hq⟩ := Option.bind_eq_some_iff.1 hq
    obtain ⟨ls, _, hq⟩ := Option.bind_eq_some_iff.1 hq
    split at hq
    · obtain ⟨q', _, rfl⟩ := Option.map_eq_some_iff.1 hq; rfl
    · cases hq
  | _ => simp [pub0] at hq

theorem RepD.pubCells (h : RepD Γ X N ds σ a w G St own) : ∀ {ls : List L} {q : Pubs} {vs : List Value}, ls.all L.isCell = true → pubWith (Vm.pub0 σ) ls = some q → repLs σ.mem G St (rdW w) ls vs → ∀ {fz : List Nat}, (∀ t ∈ q.fz, t ∈ fz) →
    repL (stF σ G St fz) (rdW w) q.vs vs
  | [], q, vs, _, hq, hv, fz, _ => by
    rw [pubWith_nil] at hq; cases hq; simp only [repLs] at hv; subst hv; simp only [repL]
  | l :: r, q, vs, hl, hq, hv, fz, hf => by
    obtain ⟨q1, q2, h1, h2, rfl⟩ := pubWith_cons hq
    simp only [List.all_cons, Bool.and_eq_true] at hl
    simp only [repLs] at hv
    obtain ⟨v, u, rfl, hv1, hv2⟩ := hv
    simp only [repL]
    have h3 := h.pub0 h1 hv1 (fz := fz) fun t ht => hf t (List.mem_append_left _ ht)
    refine ⟨v, u, rfl, ⟨pub0ucell hl.1 h1, ?_⟩, h.pubCells hl.2 h2 hv2 fun t ht => hf t (List.mem_append_right _ ht)⟩
    have := h3.1
    rwa [cells_of_one (isCell_one hl.1 hv1)] at this

theorem RepD.pub1 (h : RepD Γ X N ds σ a w G St own) {l : L} {q : Pub} (hq : Vm.pub1 σ l = some q) {v : Value} (hv : repLv σ.mem G St (rdW w) l v) {fz : List Nat} (hf : ∀ t ∈ q.fz, t ∈ fz) :
    rep (stF σ G St fz) (rdW w) q.v v := by
  cases l with
  | agg ls =>
    simp only [Vm.pub1] at hq
    split at hq
    · rename_i hl
      obtain ⟨q', hq', rfl⟩ := Option.map_eq_some_iff.1 hq
      simp only [repLv] at hv
      obtain ⟨vs, rfl, hv⟩ := hv
      exact ⟨by simp only [repC]; exact h.pubCells hl hq' hv hf, rfl⟩
    · cases hq
  | _ => exact h.pub0 (by simpa only [Vm.pub1] using hq) hv hf

theorem RepD.pubs (h : RepD Γ X N ds σ a w G St own) : ∀ {ls : List L} {q : Pubs} {vs : List Value}, pubWith (Vm.pub1 σ) ls = some q → repLs σ.mem G St (rdW w) ls vs → ∀ {fz : List Nat}, (∀ t ∈ q.fz, t ∈ fz) →
    repT (stF σ G St fz) (rdW w) q.vs vs
  | [], q, vs, hq, hv, fz, _ => by
    rw [pubWith_nil] at hq; cases hq; simp only [repLs] at hv; subst hv; simp only [repT]
  | l :: r, q, vs, hq, hv, fz, hf => by
    obtain ⟨q1, q2, h1, h2, rfl⟩ := pubWith_cons hq
    simp only [repLs] at hv
    obtain ⟨v, u, rfl, hv1, hv2⟩ := hv
    simp only [repT]
    exact ⟨v, u, rfl, h.pub1 h1 hv1 fun t ht => hf t (List.mem_append_left _ ht), h.pubs h2 hv2 fun t ht => hf t (List.mem_append_right _ ht)⟩

theorem RepD.pubO (h : RepD Γ X N ds σ a w G St own) {l : L} {q : Pub} (hq : Vm.pubO σ l = some q) {v : Value} (hv : repLv σ.mem G St (rdW w) l v) {fz : List Nat} (hf : ∀ t ∈ q.fz, t ∈ fz) :
    rep (stF σ G St fz) (rdW w) q.v v := by
  unfold Vm.pubO at hq
  split at hq
  · rename_i t
    obtain ⟨n, hn, hq⟩ := Option.bind_eq_some_iff.1 hq
    obtain ⟨ls, hls, hq⟩ := Option.bind_eq_some_iff.1 hq
    split at hq
    · rename_i hc
      obtain ⟨q', hq', rfl⟩ := Option.map_eq_some_iff.1 hq
      have hb := boxN_some hn
      obtain ⟨cs, e, vs, p1, p2, p3, p4, p5⟩ := h.boxVals hb hls (by omega)
      simp only [repLv] at hv
      rw [hv.1]
      refine ⟨?_, rfl⟩
      simp only [repC]
      refine ⟨G.bk t, 0, rfl, repA_at.2 ⟨vs, cellsAt_get.2 fun j v hj => ⟨?_, .inr ⟨t, hf t (by simp), .inl ⟨n, hb, rfl⟩⟩⟩, h.pubCells hc hq' p5 fun t ht => hf t (by simp [ht])⟩⟩
      have := (p4 j v hj).1
      simp only [rdW, World.cell?, p1, Nat.zero_add] at this ⊢
      simpa using this
    · cases hq
  · exact h.pub1 hq hv hf
theorem RepD.pubOs (h : RepD Γ X N ds σ a w G St own) : ∀ {ls : List L} {q : Pubs} {vs : List Value}, pubWith (Vm.pubO σ) ls = some q → repLs σ.mem G St (rdW w) ls vs → ∀ {fz : List Nat}, (∀ t ∈ q.fz, t ∈ fz) →
    repT (stF σ G St fz) (rdW w) q.vs vs
  | [], q, vs, hq, hv, fz, _ => by
    rw [pubWith_nil] at hq; cases hq; simp only [repLs] at hv; subst hv; simp only [repT]
  | l :: r, q, vs, hq, hv, fz, hf => by
    obtain ⟨q1, q2, h1, h2, rfl⟩ := pubWith_cons hq
    simp only [repLs] at hv
    obtain ⟨v, u, rfl, hv1, hv2⟩ := hv
    simp only [repT]
    exact ⟨v, u, rfl, h.pubO h1 hv1 fun t ht => hf t (List.mem_append_left _ ht), h.pubOs h2 hv2 fun t ht => hf t (List.mem_append_right _ ht)⟩
end Go.Vm

namespace Go.Vm
variable {Γ : Nat → Option (List V)} {X : Ctx} {N : Nat} {ds : List Deferred} {σ : VS} {a : Act} {w w' : World} {G G' : GG} {St St' : Nat → Nat → Prop} {own : Nat → Prop} {P : Program} {K : Eff → Prop}

def Done (P : Program) (Γ : Nat → Option (List V)) (X : Ctx) (N : Nat) (ds : List Deferred) (σ : VS) (a : Act) (w : World) (s : Sem Next) (e : Eff) : Prop :=
  ∃ v w1, (s.run P w = .ok (.value v) w1 ∨ (s.run P w = .ok .skip w1 ∧ v = undef)) ∧
    ∃ G' St' own', RepD Γ X N ds (σ.upd e.wr) a w1 G' St' own' ∧ repLv (σ.upd e.wr).mem G' St' (rdW w1) e.val v

theorem scal_rep {mem : Key → M} {rd : Nat → Nat → Option Value} {v : Value} {l : L} (h : scal v = some l) : repLv mem G St rd l v ∧ v.oneCell' = true ∧ l.isCell = true := by
  unfold scal at h
  split at h <;> first | (cases h; done) | skip
  all_goals
    simp only [Option.some.injEq] at h
    subst h
    simp [repLv, rep, repC, Value.cells, Value.isAgg, V.isAgg, Value.oneCell', L.isCell]
theorem scals_rep {mem : Key → M} {rd : Nat → Nat → Option Value} : ∀ {vs : List Value} {ls : List L}, vs.mapM scal = some ls → repLs mem G St rd ls vs ∧ (∀ v ∈ vs, v.oneCell' = true) ∧ ls.all L.isCell = true
  | [], ls, h => by simp at h; subst h; simp [repLs]
  | v :: vs, ls, h => by
    simp only [List.mapM_cons, Option.bind_eq_bind, Option.bind_eq_some_iff, Option.pure_def, Option.some.injEq] at h
    obtain ⟨l, h1, ls', h2, rfl⟩ := h
    obtain ⟨p1, p2, p3⟩ := scal_rep (mem := mem) (G := G) (St := St) (rd := rd) h1
    obtain ⟨q1, q2, q3⟩ := scals_rep (mem := mem) (rd := rd) h2
    refine ⟨by simp only [repLs]; exact ⟨v, vs, rfl, p1, q1⟩, fun u hu => ?_, by simp [p3, q3]⟩
    rcases List.mem_cons.1 hu with rfl | hu
    · exact p2
    · exact q2 u hu

theorem RepD.ev (h : RepD Γ X N ds σ a w G St own) (x : Operand) : repLv σ.mem G St (rdW w) (σ.ev Γ x) (a.eval x) := by
  cases x with
  | tmp t => exact h.slots t
  | const v =>
    simp only [VS.ev, Act.eval]
    cases hs : scal v with
    | none => simp [repLv]
    | some l => exact (scal_rep hs).1
  | global g =>
    simp only [VS.ev, Act.eval]
    split
    · rename_i cs hg
      simp only [repLv, rep, repC]
      exact ⟨⟨g, 0, rfl, h.glob g cs hg⟩, rfl⟩
    · simp [repLv]
  | func f =>
    simp only [VS.ev, Act.eval, repLv, rep, repC, repT]
    exact ⟨⟨#[], #[], rfl, rfl, rfl⟩, rfl⟩
theorem RepD.evs (h : RepD Γ X N ds σ a w G St own) : ∀ (l : List Operand), repLs σ.mem G St (rdW w) (l.map (σ.ev Γ)) (l.map a.eval)
  | [] => by simp [repLs]
  | x :: l => by simp only [List.map_cons, repLs]; exact ⟨_, _, rfl, h.ev x, h.evs l⟩

theorem RepD.nop (h : RepD Γ X N ds σ a w G St own) : RepD Γ X N ds (σ.upd []) a w G St own := h

theorem Done.pure (h : RepD Γ X N ds σ a w G St own) {s : Sem Next} {e : Eff} {v : Value} (hw : e.wr = []) (hr : s.run P w = .ok (.value v) w) (hv : repLv σ.mem G St (rdW w) e.val v) : Done P Γ X N ds σ a w s e := by
  refine ⟨v, w, .inl hr, G, St, own, ?_, ?_⟩
  · rw [hw]; exact h
  · rw [hw]; exact hv

theorem szq_some {t n : Nat} (h : szq P t = some n) : ∃ i, P.info? t = some i ∧ i.size = n := Option.map_eq_some_iff.1 h
theorem byq_some {t n : Nat} (h : byq P t = some n) : ∃ i, P.info? t = some i ∧ i.bytes = n := Option.map_eq_some_iff.1 h
theorem elq_some {t e : Nat} (h : elq P t = some e) : P.underlying t = some (.slice e) := by
  unfold elq at h
  split at h
  · rename_i e' he; cases h; exact he
  · cases h
theorem arq_some {t : Nat} {q : Nat × Nat} (h : arq P t = some q) : P.underlying t = some (.array q.1 q.2) := by
  unfold arq at h
  split at h
  · rename_i n e' he; cases h; exact he
  · cases h
theorem run_sizeOf {t n : Nat} (h : szq P t = some n) (w : World) : (sizeOf t).run P w = .ok n w := by
  obtain ⟨i, h1, h2⟩ := szq_some h
  simp [sizeOf, typeInfo, h1, h2]
theorem run_isAgg {t : Nat} {ag : Bool} (h : agq P t = some ag) (w : World) : (isAgg t).run P w = .ok ag w := by
  unfold agq at h
  split at h <;> cases h <;> rename_i hu <;> simp [isAgg, run_underlying hu]

theorem add_addr (b o n : Nat) : (⟨b, o, none⟩ : Addr).add n = ⟨b, o + n, none⟩ := by unfold Addr.add; split <;> simp_all

theorem run_loadVar_cells {t n b o : Nat} {ag : Bool} (hn : szq P t = some n) (ha : agq P t = some ag) {vs : List Value} (hl : vs.length = n) (hc : ∀ i v, vs[i]? = some v → w.cell? ⟨b, o + i, none⟩ = some v) :
    ag = true → (loadVar t ⟨b, o, none⟩).run P w = .ok (.agg vs.toArray) w := by
  intro hag
  have h1 := run_loadCells_list (P := P) w ⟨b, o, none⟩ vs (fun j v hj => by rw [add_addr]; exact hc j v hj)
  rw [hl] at h1
  simp [loadVar, run_isAgg ha, hag, run_sizeOf hn, h1]
theorem run_loadVar_cell {t b o : Nat} (ha : agq P t = some false) {v : Value} (hc : w.cell? ⟨b, o, none⟩ = some v) : (loadVar t ⟨b, o, none⟩).run P w = .ok v w := by
  simp [loadVar, run_isAgg ha, hc]

theorem mkAgg_rep {mem : Key → M} {rd : Nat → Nat → Option Value} : ∀ {ls : List L} {vs : List Value}, repLs mem G St rd ls vs → (∀ v ∈ vs, v.oneCell' = true) → ∀ {cs : List V}, allP ls = some cs → repL St rd cs vs
  | [], vs, h, _, cs, hc => by simp only [allP, Option.some.injEq] at hc; subst hc; simp only [repLs] at h; subst h; simp only [repL]
  | l :: ls, vs, h, h1, cs, hc => by
    simp only [repLs] at h
    obtain ⟨v, r, rfl, hv, hr⟩ := h
    cases l with
    | p x =>
      simp only [allP] at hc
      obtain ⟨cs', hc', rfl⟩ := Option.map_eq_some_iff.1 hc
      simp only [repL]
      simp only [repLv] at hv
      have hv1 := h1 v (by simp)
      refine ⟨v, r, rfl, ⟨?_, ?_⟩, mkAgg_rep hr (fun u hu => h1 u (List.mem_cons_of_mem _ hu)) hc'⟩
      · rw [← hv.2]; exact isAgg_of_one hv1
      · have := hv.1; rwa [cells_of_one hv1] at this
    | _ => simp [allP] at hc
theorem repLv_mkAgg {mem : Key → M} {rd : Nat → Nat → Option Value} {ls : List L} {vs : List Value} (h : repLs mem G St rd ls vs) (h1 : ∀ v ∈ vs, v.oneCell' = true) : repLv mem G St rd (mkAgg ls) (.agg vs.toArray) := by
  unfold mkAgg
  split
  · rename_i cs hc
    simp only [repLv, rep, repC]
    exact ⟨mkAgg_rep h h1 hc, rfl⟩
  · simp only [repLv]
    exact ⟨vs.toArray, rfl, h⟩
theorem repL_sub {rd : Nat → Nat → Option Value} {cs r : List V} {vs : List Value} {j n : Nat} (h : repL St rd cs vs) (hr : sub cs j n = some r) : repL St rd r ((vs.drop j).take n) ∧ j + n ≤ vs.length := by
  unfold sub at hr
  split at hr
  · rename_i hj
    cases hr
    have hl := repL_len _ _ h
    have e1 : cs = cs.take j ++ ((cs.drop j).take n ++ (cs.drop j).drop n) := by rw [List.take_append_drop, List.take_append_drop]
    rw [e1] at h
    obtain ⟨l1, l2, rfl, p1, p2⟩ := repL_split h
    obtain ⟨l3, l4, rfl, p3, p4⟩ := repL_split p2
    have k1 := repL_len _ _ p1
    have k3 := repL_len _ _ p3
    simp at k1 k3
    refine ⟨?_, by simp at hl ⊢; omega⟩
    have : l1.length = j := by omega
    have h3 : l3.length = n := by omega
    rw [List.drop_left' this, List.take_left' h3]
    exact p3
  · cases hr
theorem repLv_unAggV {mem : Key → M} {rd : Nat → Nat → Option Value} {ag : Bool} {cs : List V} {vs : List Value} {v : V} (h : repL St rd cs vs) (hu : unAggV ag cs = some v) :
    (ag = true → repLv mem G St rd (.p v) (.agg vs.toArray)) ∧ (ag = false → ∃ x, vs = [x] ∧ repLv mem G St rd (.p v) x) := by
  unfold unAggV at hu
  split at hu
  · rename_i ha
    cases hu
    refine ⟨fun _ => ?_, fun h => by rw [ha] at h; cases h⟩
    simp only [repLv, rep, repC]
    exact ⟨h, rfl⟩
  · rename_i ha
    split at hu
    · rename_i c
      cases hu
      refine ⟨fun h => (ha h).elim, fun _ => ?_⟩
      simp only [repL] at h
      obtain ⟨x, r, rfl, ⟨h1, h2⟩, rfl⟩ := h
      refine ⟨x, rfl, ?_⟩
      have hp := oneCell_of_plain (repC_plain _ _ h2 x (by simp))
      simp only [repLv, rep]
      exact ⟨by rw [cells_of_one hp]; exact h2, by rw [isAgg_of_one hp, h1]⟩
    · cases hu

theorem RepD.load (h : RepD Γ X N ds σ a w G St own) {t : TypeId} {l : L} {v : Value} (hv : repLv σ.mem G St (rdW w) l v) (hk : vload P σ t l K) :
    ∃ e u, K e ∧ e.wr = [] ∧ (Instr.loadAt t v).run P w = .ok u w ∧ repLv σ.mem G St (rdW w) e.val u := by
  unfold vload at hk
  obtain ⟨n, hn, hk'⟩ := wantO_iff.1 hk
  clear hk
  obtain ⟨ag, ha, hk⟩ := wantO_iff.1 hk'
  clear hk'
  split at hk
  · rename_i s j
    obtain ⟨m, hm, hk⟩ := wantO_iff.1 hk
    obtain ⟨hj, hk⟩ := need_iff.1 hk
    obtain ⟨ls, hls, hk⟩ := wantO_iff.1 hk
    obtain ⟨l, hl, hK⟩ := wantO_iff.1 hk
    have hb := boxN_some hm
    obtain ⟨cs, e, vs, p1, p2, p3, p4, p5⟩ := h.boxVals hb hls hj
    simp only [repLv] at hv
    obtain ⟨rfl, _⟩ := hv
    have hc : ∀ i u, vs[i]? = some u → w.cell? ⟨G.bk s, j + i, none⟩ = some u := fun i u hi => by
      have := (p4 i u hi).1
      simp only [World.cell?, p1]; simpa using this
    unfold unAgg at hl
    split at hl
    · rename_i hag
      cases hl
      refine ⟨_, .agg vs.toArray, hK, rfl, ?_, repLv_mkAgg p5 fun u hu => ?_⟩
      · simp only [Instr.loadAt, Instr.sureAddr]
        exact run_loadVar_cells hn ha p3 hc hag
      · obtain ⟨i, hi⟩ := List.mem_iff_getElem?.1 hu
        exact (p4 i u hi).2
    · rename_i hag
      split at hl
      · rename_i l0
        cases hl
        simp only [repLs] at p5
        obtain ⟨u, r, rfl, q1, rfl⟩ := p5
        refine ⟨_, u, hK, rfl, ?_, q1⟩
        have hag' : ag = false := by simpa using hag
        subst hag'
        simp only [Instr.loadAt, Instr.sureAddr]
        exact run_loadVar_cell ha (hc 0 u rfl)
      · cases hl
  · rename_i s g i j
    obtain ⟨⟨⟨e, es⟩, xs⟩, hc, hk⟩ := wantO_iff.1 hk
    obtain ⟨x, hx, hk⟩ := wantO_iff.1 hk
    obtain ⟨cs, hcs, hk⟩ := wantO_iff.1 hk
    obtain ⟨y, hy, hK⟩ := wantO_iff.1 hk
    have hm := curA_some hc
    simp only at hm hx
    obtain ⟨h0, vs, ⟨hlen, ho⟩, hl, hxs⟩ := h.arrs s g e es xs hm
    simp only [repLv] at hv
    obtain ⟨g', e', es', xs', q1, q2, q3⟩ := hv
    rw [hm] at q1; cases q1
    obtain ⟨blk, r1, r2, rfl⟩ := q3 rfl
    rcases ho with ⟨hv, _⟩ | ⟨blk', cap, cur, hv, _, hb, hnc, _, _, hcur⟩
    · rw [hv] at r1; cases r1
    have eb : blk = blk' := by rw [hv] at r1; simpa [Value.ownBlock] using r1.symm
    subst eb
    have hxi := (repC_cells _ _).1 (hxs i x hx)
    obtain ⟨k1, k2⟩ := repL_sub hxi hcs
    have hle : i * es + es ≤ xs.length * es := by rw [← Nat.succ_mul]; exact Nat.mul_le_mul_right _ r2
    simp only [List.length_take, List.length_drop] at k2
    have hcell : ∀ k u, ((((vs.drop (i * es)).take es).drop j).take n)[k]? = some u → w.cell? ⟨blk, i * es + j + k, none⟩ = some u := fun k u hk => by
      have hkn : k < n := by have := (List.getElem?_eq_some_iff.1 hk).1; simp at this; omega
      rw [List.getElem?_take_of_lt hkn, List.getElem?_drop, List.getElem?_take_of_lt (by omega), List.getElem?_drop] at hk
      have h3 : cur[i * es + j + k]? = some u := by rw [take_get hcur (by omega), Nat.add_assoc]; exact hk
      simp only [World.cell?, hb]; simpa using h3
    have hlen2 : (((vs.drop (i * es)).take es).drop j |>.take n).length = n := by simp; omega
    obtain ⟨u1, u2⟩ := repLv_unAggV (mem := σ.mem) (G := G) k1 hy
    cases ag with
    | true =>
      refine ⟨_, _, hK, rfl, ?_, u1 rfl⟩
      simp only [Instr.loadAt, Instr.sureAddr]
      exact run_loadVar_cells hn ha hlen2 hcell rfl
    | false =>
      obtain ⟨u, hu, hr⟩ := u2 rfl
      refine ⟨_, u, hK, rfl, ?_, hr⟩
      simp only [Instr.loadAt, Instr.sureAddr]
      exact run_loadVar_cell ha (hcell 0 u (by rw [hu]; rfl))
  · rename_i cs0
    obtain ⟨cs, hcs, hk⟩ := wantO_iff.1 hk
    obtain ⟨y, hy, hK⟩ := wantO_iff.1 hk
    simp only [repLv, rep] at hv
    obtain ⟨hv, hva⟩ := hv
    simp only [repC] at hv
    obtain ⟨b, o, e1, hA⟩ := hv
    obtain ⟨l, q1, q2⟩ := repA_at.1 hA
    have ev : v = .pointer (some ⟨b, o, none⟩) := by
      cases v <;> simp [Value.cells] at e1 <;> first | (simp [e1]; done) | skip
      simp [Value.isAgg, V.isAgg] at hva
    subst ev
    obtain ⟨k1, k2⟩ := repL_sub q2 hcs
    have hcell : ∀ k u, (((l.drop 0).take n))[k]? = some u → w.cell? ⟨b, o + k, none⟩ = some u := fun k u hk => by
      have hkn : k < n := by have := (List.getElem?_eq_some_iff.1 hk).1; simp at this; omega
      rw [List.getElem?_take_of_lt hkn, List.drop_zero] at hk
      exact (cellsAt_get.1 q1 k u hk).1
    have hlen2 : ((l.drop 0).take n).length = n := by simp; omega
    obtain ⟨u1, u2⟩ := repLv_unAggV (mem := σ.mem) (G := G) k1 hy
    cases ag with
    | true =>
      refine ⟨_, _, hK, rfl, ?_, u1 rfl⟩
      simp only [Instr.loadAt, Instr.sureAddr]
      exact run_loadVar_cells hn ha hlen2 hcell rfl
    | false =>
      obtain ⟨u, hu, hr⟩ := u2 rfl
      refine ⟨_, u, hK, rfl, ?_, hr⟩
      simp only [Instr.loadAt, Instr.sureAddr]
      exact run_loadVar_cell ha (hcell 0 u (by rw [hu]; rfl))
  · rename_i s j
    obtain ⟨m, hm, hk⟩ := wantO_iff.1 hk
    obtain ⟨⟨hn1, hag, hj⟩, hk⟩ := need_iff.1 hk
    obtain ⟨l, hl, hK⟩ := wantO_iff.1 hk
    subst hag
    have hb := boxN_some hm
    obtain ⟨cs, e, p, q, r⟩ := h.boxes s m hb
    obtain ⟨l', u, r1, r2, r3, r4⟩ := r j hj
    rw [cellOf_some hl] at r1; cases r1
    simp only [repLv] at hv
    obtain ⟨rfl, _⟩ := hv
    refine ⟨_, u, hK, rfl, ?_, r3⟩
    simp only [Instr.loadAt, Instr.sureAddr]
    exact run_loadVar_cell ha (by simp only [World.cell?, p]; simpa using r2)
  · exact hk.elim
end Go.Vm

namespace Go.Vm
variable {Γ : Nat → Option (List V)} {X : Ctx} {N : Nat} {ds : List Deferred} {σ : VS} {a : Act} {w w' : World} {G G' : GG} {St St' : Nat → Nat → Prop} {own : Nat → Prop} {P : Program} {K : Eff → Prop}

theorem look_append {k : Key} {m : M} : ∀ {x y : List (Key × M)}, look k m (x ++ y) = look k (look k m y) x
  | [], _ => rfl
  | (k', v) :: x, y => by simp only [List.cons_append, look]; split <;> first | rfl | exact look_append
theorem upd_upd (σ : VS) (x y : List (Key × M)) : (σ.upd x).upd y = σ.upd (y ++ x) := by
  simp only [VS.upd, look_append]

theorem cells_rep {mem : Key → M} {rd : Nat → Nat → Option Value} {x : L} {u : Value} (hc : x.cells.all L.isCell = true) (h : repLv mem G St rd x u) : repLs mem G St rd x.cells u.cells.toList ∧ ∀ v ∈ u.cells.toList, v.oneCell' = true := by
  have one : ∀ {ls : List L} {vs : List Value}, ls.all L.isCell = true → repLs mem G St rd ls vs → ∀ v ∈ vs, v.oneCell' = true := fun {ls vs} hl hr v hv => by
    obtain ⟨i, hi⟩ := List.mem_iff_getElem?.1 hv
    obtain ⟨h1, h2⟩ := repLs_get.1 hr
    have hil : i < ls.length := by rw [h1]; exact (List.getElem?_eq_some_iff.1 hi).1
    exact isCell_one (List.all_eq_true.1 hl _ (List.getElem_mem hil)) (h2 i ls[i] v (by simp [hil]) hi)
  have key : repLs mem G St rd x.cells u.cells.toList := by
    cases x with
    | p v =>
      simp only [repLv] at h
      exact repLs_p ((repC_cells v _).1 h.1)
    | agg ls =>
      simp only [repLv] at h
      obtain ⟨vs, rfl, h⟩ := h
      exact h
    | _ =>
      simp only [L.cells, List.all_cons, List.all_nil, Bool.and_true] at hc ⊢
      rw [cells_of_one (isCell_one hc h)]
      simp only [repLs]
      exact ⟨u, [], rfl, h, rfl⟩
  exact ⟨key, one hc key⟩

theorem run_storeVar {t n b o : Nat} {cur : Array Value} {e : TypeId} {v : Value} (hn : szq P t = some n) (hl : v.cells.toList.length = n) (hb : w.heap[b]? = some (.cells cur e (0, 0))) (hj : o + n ≤ cur.size) (h1 : ∀ u ∈ v.cells.toList, u.oneCell' = true) :
    (storeVar t ⟨b, o, none⟩ v).run P w = .ok () (w.setRow b (cur.toList.take o ++ v.cells.toList ++ cur.toList.drop (o + v.cells.toList.length)).toArray) := by
  have := run_storeCells_at (P := P) b o e v.cells.toList 0 cur w hb (by omega) h1
  simp only [Nat.add_zero] at this
  have hs : v.cells.size = n := by simpa using hl
  simp [storeVar, run_sizeOf hn, hs, this]

theorem get_splice {cs nc : List Value} {o k : Nat} (ho : o + nc.length ≤ cs.length) : (cs.take o ++ nc ++ cs.drop (o + nc.length))[k]? = if o ≤ k ∧ k < o + nc.length then nc[k - o]? else cs[k]? := by
  simp only [List.append_assoc]
  have hl : (cs.take o).length = o := by simp; omega
  by_cases h1 : k < o
  · rw [List.getElem?_append_left (by omega), if_neg (by omega), List.getElem?_take_of_lt h1]
  · rw [List.getElem?_append_right (by omega), hl]
    by_cases h2 : k < o + nc.length
    · rw [List.getElem?_append_left (by omega), if_pos (by omega)]
    · rw [List.getElem?_append_right (by omega), if_neg (by omega), List.getElem?_drop]
      congr 1; omega

theorem repEs_set {rd : Nat → Nat → Option Value} {es : Nat} {xs : List V} {vs nc : List Value} {i : Nat} {y : V} (h : repEs St rd es xs vs) (hi : i < xs.length) (hn : nc.length = es) (hy : repC St rd y nc) :
    repEs St rd es (xs.set i y) (vs.take (i * es) ++ nc ++ vs.drop (i * es + nc.length)) := by
  obtain ⟨h1, h2⟩ := h
  have hle : i * es + es ≤ xs.length * es := by rw [← Nat.succ_mul]; exact Nat.mul_le_mul_right _ hi
  refine ⟨by simp; omega, fun k x hk => ?_⟩
  have hkl : k < xs.length := by have := (List.getElem?_eq_some_iff.1 hk).1; simpa using this
  have hkle : k * es + es ≤ xs.length * es := by rw [← Nat.succ_mul]; exact Nat.mul_le_mul_right _ hkl
  have ext : ∀ l : List Value, l.length = es → (∀ j, j < es → (vs.take (i * es) ++ nc ++ vs.drop (i * es + nc.length))[k * es + j]? = l[j]?) → ((vs.take (i * es) ++ nc ++ vs.drop (i * es + nc.length)).drop (k * es)).take es = l := fun l hl hj => by
    apply List.ext_getElem?
    intro j
    by_cases hjs : j < es
    · rw [List.getElem?_take_of_lt hjs, List.getElem?_drop]; exact hj j hjs
    · rw [List.getElem?_eq_none (by simp; omega), List.getElem?_eq_none (by omega)]
  by_cases hik : i = k
  · subst hik
    rw [List.getElem?_set_self hi] at hk
    cases hk
    rw [ext nc hn fun j hj => by rw [get_splice (by omega), if_pos (by omega)]; congr 1; omega]
    exact hy
  · rw [List.getElem?_set_ne hik] at hk
    rw [ext ((vs.drop (k * es)).take es) (by simp; omega) fun j hj => ?_]
    · exact h2 k x hk
    · rw [get_splice (by omega), if_neg ?_, List.getElem?_take_of_lt hj, List.getElem?_drop]
      rintro ⟨p, q⟩
      rcases Nat.lt_or_gt_of_ne hik with h | h
      · have : i * es + es ≤ k * es := by rw [← Nat.succ_mul]; exact Nat.mul_le_mul_right _ h
        omega
      · have : k * es + es ≤ i * es := by rw [← Nat.succ_mul]; exact Nat.mul_le_mul_right _ h
        omega

theorem RepD.storeCel (h : RepD Γ X N ds σ a w G St own) {t : TypeId} {s m j : Nat} {l : L} {u : Value} (hn : szq P t = some 1) (hb : σ.mem (.b s) = .box m) (hf : isNone (σ.mem (.f s)) = true) (hj : j < m) (hx : repLv σ.mem G St (rdW w) l u) (h1 : u.oneCell' = true) :
    ∃ w1, (Instr.storeAt t (.pointer (some ⟨G.bk s, j, none⟩)) u).run P w = .ok () w1 ∧ RepD Γ X N ds (σ.upd [(.c s j, .cell l)]) a w1 G St (newOwn own w w1) := by
  obtain ⟨cs, e, p, q, _⟩ := h.boxes s m hb
  have hc := cells_of_one h1
  have hl : u.cells.toList.length = 1 := by rw [hc]; rfl
  have := h.setBox (j := j) (ls := [l]) (vs := [u]) hb hf (by simp; omega) (by simp only [repLs]; exact ⟨u, [], rfl, hx, rfl⟩) (by simpa using h1) p
  refine ⟨_, ?_, this⟩
  simp only [Instr.storeAt, Instr.sureAddr]
  have hr := run_storeVar (P := P) (w := w) (v := u) hn hl p (show j + 1 ≤ cs.size by omega) (by rw [hc]; simpa using h1)
  rw [hc] at hr
  exact hr

theorem RepD.store (h : RepD Γ X N ds σ a w G St own) {t : TypeId} {l x : L} {v u : Value} (hv : repLv σ.mem G St (rdW w) l v) (hx : repLv σ.mem G St (rdW w) x u) (hk : vstore P σ t l x K) :
    ∃ e w1, K e ∧ e.val = .dead ∧ (Instr.storeAt t v u).run P w = .ok () w1 ∧ ∃ G' St' own', RepD Γ X N ds (σ.upd e.wr) a w1 G' St' own' := by
  unfold vstore at hk
  obtain ⟨n, hn, hk'⟩ := wantO_iff.1 hk
  clear hk
  split at hk'
  · rename_i s j
    obtain ⟨m, hm, hk⟩ := wantO_iff.1 hk'
    obtain ⟨⟨h1, h2, h3, h4⟩, hK⟩ := need_iff.1 hk
    have hb := boxN_some hm
    obtain ⟨cs, e, p, q, _⟩ := h.boxes s m hb
    obtain ⟨c1, c2⟩ := cells_rep h4 hx
    have hl := repLs_length c1
    simp only [repLv] at hv
    obtain ⟨rfl, _⟩ := hv
    refine ⟨_, _, hK, rfl, ?_, _, _, _, h.setBox hb h3 (by omega) c1 c2 p⟩
    simp only [Instr.storeAt, Instr.sureAddr]
    exact run_storeVar hn (by omega) p (by omega) c2
  · rename_i s g i j
    obtain ⟨⟨⟨e, es⟩, xs⟩, hc, hk⟩ := wantO_iff.1 hk'
    obtain ⟨y, hy, hk⟩ := wantO_iff.1 hk
    obtain ⟨q, hq, hk⟩ := wantO_iff.1 hk
    obtain ⟨⟨h1, h2, h3, h4⟩, hk⟩ := need_iff.1 hk
    obtain ⟨y2, hy2, hK⟩ := wantO_iff.1 hk
    have hm := curA_some hc
    simp only at hm hy
    have hF := h.frz q.fz
    have hm1 : (σ.upd (frzs q.fz)).mem (.a s) = .arr g e es xs := by rw [← hm]; exact look_frzs (by simp)
    have hf1 : isNone ((σ.upd (frzs q.fz)).mem (.f s)) = true := by
      have : (σ.upd (frzs q.fz)).mem (.f s) = if s ∈ q.fz then .frz else σ.mem (.f s) := look_frzs_f
      rw [this, if_neg h4]; exact h3
    have hu := h.pub1 hq hx (fz := q.fz) fun _ h => h
    have huc := (repC_cells _ _).1 hu.1
    have hul := repL_len _ _ huc
    have hup := repL_plain _ _ huc
    obtain ⟨h0, vs, ⟨hlen, ho⟩, hl, hxs⟩ := hF.arrs s g e es xs hm1
    simp only [repLv] at hv
    obtain ⟨g', e', es', xs', q1, q2, q3⟩ := hv
    rw [hm] at q1; cases q1
    obtain ⟨blk, r1, r2, rfl⟩ := q3 rfl
    have hsa := (hF.sarr s g e es xs blk hm1 r1).1 hf1
    rcases ho with ⟨hv, _⟩ | ⟨blk', cap, cur, hv, _, hb, hnc, hcm, hcs, hcur⟩
    · rw [hv] at r1; cases r1
    have eb : blk = blk' := by rw [hv] at r1; simpa [Value.ownBlock] using r1.symm
    subst eb
    have hle : i * es + es ≤ xs.length * es := by rw [← Nat.succ_mul]; exact Nat.mul_le_mul_right _ r2
    have hcapes : xs.length * es ≤ cur.size := by rw [hcs]; exact Nat.mul_le_mul_right _ hnc
    have hyc := (repC_cells _ _).1 (hxs i y hy)
    have hyl := repL_len _ _ hyc
    have hyes : y.cells.length = es := by
      have : ((vs.drop (i * es)).take es).length = es := by simp; omega
      omega
    -- the element's new cells
    have hnc1 : ((vs.drop (i * es)).take es).length = es := by simp; omega
    have hrow : repC (stF σ G St q.fz) (rdW w) y2 (((vs.drop (i * es)).take es).take j ++ u.cells.toList ++ ((vs.drop (i * es)).take es).drop (j + n)) := by
      have e1 : y.cells = y.cells.take j ++ ((y.cells.drop j).take n ++ (y.cells.drop j).drop n) := by rw [List.take_append_drop, List.take_append_drop]
      have e2 := hyc
      rw [e1] at e2
      obtain ⟨l1, l2, k1, k2, k3⟩ := repL_split e2
      obtain ⟨l3, l4, rfl, k4, k5⟩ := repL_split k3
      have n1 := repL_len _ _ k2
      have n3 := repL_len _ _ k4
      simp at n1 n3
      have d1 : l1.length = j := by omega
      have d3 : l3.length = n := by omega
      have t1 : ((vs.drop (i * es)).take es).take j = l1 := by rw [k1, List.take_left' d1]
      have t2 : ((vs.drop (i * es)).take es).drop (j + n) = l4 := by
        rw [k1, ← List.append_assoc, List.drop_left' (by simp; omega)]
      rw [t1, t2]
      have hcat := repL_append (repL_append k2 huc) k5
      rw [List.drop_drop] at hcat
      unfold reCell unAggV at hy2
      split at hy2
      · cases hy2; simp only [repC]; exact hcat
      · split at hy2
        · rename_i c hcc
          cases hy2
          rw [hcc] at hcat
          simp only [repL] at hcat
          obtain ⟨z, r, hz, ⟨_, hz2⟩, rfl⟩ := hcat
          rw [hz]; exact hz2
        · cases hy2
    have hnl : (((vs.drop (i * es)).take es).take j ++ u.cells.toList ++ ((vs.drop (i * es)).take es).drop (j + n)).length = es := by
      simp only [List.length_append, List.length_take, List.length_drop] at hnc1 ⊢; omega
    have hus : u.cells.toList.length = n := by omega
    have husz : u.cells.size = n := by rw [← hus]; simp
    generalize hnew : (cur.toList.take (i * es + j) ++ u.cells.toList ++ cur.toList.drop (i * es + j + u.cells.toList.length)).toArray = new
    have hnsz : new.size = cur.size := by rw [← hnew]; simp; omega
    have hEs := repEs_set ⟨hl, hxs⟩ r2 hnl hrow
    have hvs2 : new.toList.take (xs.length * es) = vs.take (i * es) ++ (((vs.drop (i * es)).take es).take j ++ u.cells.toList ++ ((vs.drop (i * es)).take es).drop (j + n)) ++ vs.drop (i * es + (((vs.drop (i * es)).take es).take j ++ u.cells.toList ++ ((vs.drop (i * es)).take es).drop (j + n)).length) := by
      apply List.ext_getElem?
      intro k
      by_cases hk : k < xs.length * es
      · rw [List.getElem?_take_of_lt hk, ← hnew]
        simp only []
        have hcv : ∀ k, k < xs.length * es → cur.toList[k]? = vs[k]? := fun k hk => by rw [← hcur, List.getElem?_take_of_lt hk]
        rw [get_splice (by simp; omega), get_splice (by omega)]
        by_cases hin : i * es ≤ k ∧ k < i * es + es
        · rw [if_pos (c := i * es ≤ k ∧ _) (by omega)]
          have hul' : u.cells.toList.length = n := by omega
          have hE : (((vs.drop (i * es)).take es).take j ++ u.cells.toList ++ ((vs.drop (i * es)).take es).drop (j + n)) = (((vs.drop (i * es)).take es).take j ++ u.cells.toList ++ ((vs.drop (i * es)).take es).drop (j + u.cells.toList.length)) := by rw [hul']
          rw [hE, get_splice (by omega)]
          by_cases h5 : i * es + j ≤ k ∧ k < i * es + j + u.cells.toList.length
          · rw [if_pos h5, if_pos (by omega)]; congr 1; omega
          · rw [if_neg h5, if_neg (by omega), hcv k hk, List.getElem?_take_of_lt (by omega), List.getElem?_drop]; congr 1; omega
        · rw [if_neg (c := i * es ≤ k ∧ _) (by omega), if_neg (by omega), hcv k hk]
      · rw [List.getElem?_eq_none (by simp; omega), List.getElem?_eq_none]
        simp only [List.length_append, List.length_take, List.length_drop] at hnl ⊢; omega
    have hrun : (Instr.storeAt t (.pointer (some ⟨blk, i * es + j, none⟩)) u).run P w = .ok () (w.setRow blk new) := by
      simp only [Instr.storeAt, Instr.sureAddr]
      rw [← hnew]
      exact run_storeVar hn (by omega) hb (by omega) (fun z hz => oneCell_of_plain (hup z hz))
    refine ⟨_, _, hK, rfl, hrun, ?_⟩
    have hupd := hF.updArr (w' := w.setRow blk new) (g2 := g) (xs2 := xs.set i y2) (v2 := G.av s) hm1
      ⟨rfl, rfl, rfl, by simp, fun k _ hk => setRow_other w blk k _ fun e0 => hk (by rw [r1, e0])⟩
      ⟨by simpa using hEs.1, .inr ⟨blk, cap, new, by simpa using hv, Nat.zero_le _, setRow_heap w blk cur new e (0, 0) hb, by simpa using hnc, hcm, by rw [hnsz]; exact hcs, by simpa using hvs2⟩⟩
      hEs
      (fun b o hst => rdW_of_block (setRow_other w blk b _ fun e0 => hsa o (e0 ▸ hst)))
      (by simp) (.inr ⟨rfl, by simp, rfl⟩) (fun b hb' => .inl hb')
    rw [upd_upd] at hupd
    exact ⟨_, _, _, hupd⟩
  · rename_i s j
    obtain ⟨m, hm, hk0⟩ := wantO_iff.1 hk'
    obtain ⟨⟨h1, h2, h3⟩, hk⟩ := need_iff.1 hk0
    clear hk0 hk'
    have hb := boxN_some hm
    subst h1
    simp only [repLv] at hv
    obtain ⟨rfl, _⟩ := hv
    unfold vput at hk
    split at hk
    · rename_i t0 g
      by_cases ht : t0 = rs s j
      · obtain ⟨w1, q1, q2⟩ := h.storeCel hn hb h3 h2 hx (isCell_one (by rfl) hx)
        exact ⟨_, w1, hk.1 ht, rfl, q1, _, _, _, q2⟩
      · obtain ⟨⟨⟨e, es⟩, xs⟩, hc, hk⟩ := wantO_iff.1 (hk.2 ht)
        obtain ⟨⟨k1, k2⟩, hK⟩ := need_iff.1 hk
        have ha := curA_some hc
        simp only at ha
        have hM := h.moveArr ha k1 ht k2
        have hu := h.arrVal ha hx
        have hsr : s ≠ rs s j := fun e0 => by rw [← e0, hb] at k2; simp [isNone] at k2
        have hx' : repLv (σ.upd [(.a (rs s j), .arr (genOf (σ.mem (.a (rs s j)))) e es xs), (.f (rs s j), .none), (.a t0, .arr (g + 1) e es [])]).mem ⟨G.bk, fun t => if t = rs s j then G.av t0 else if t = t0 then .slice none 0 0 else G.av t⟩ St (rdW w) (.arr (rs s j) (genOf (σ.mem (.a (rs s j))))) u := by
          simp only [repLv]
          refine ⟨_, e, es, xs, by simp [VS.upd, look], Nat.le_refl _, isCell_one (by rfl) hx, fun _ => by rw [hu]; simp⟩
        obtain ⟨w1, q1, q2⟩ := hM.storeCel (s := s) (m := m) (j := j) hn (by simp only [VS.upd, look, reduceCtorEq, if_false]; exact hb) (by simp only [VS.upd, look, reduceCtorEq, if_false, Key.f.injEq, hsr]; exact h3) h2 hx' (isCell_one (by rfl) hx)
        rw [upd_upd] at q2
        exact ⟨_, w1, hK, rfl, q1, _, _, _, q2⟩
    · obtain ⟨w1, q1, q2⟩ := h.storeCel hn hb h3 h2 hx (isCell_one (by rfl) hx)
      exact ⟨_, w1, hk, rfl, q1, _, _, _, q2⟩
    · obtain ⟨w1, q1, q2⟩ := h.storeCel hn hb h3 h2 hx (isCell_one (by rfl) hx)
      exact ⟨_, w1, hk, rfl, q1, _, _, _, q2⟩
    · obtain ⟨w1, q1, q2⟩ := h.storeCel hn hb h3 h2 hx (isCell_one (by rfl) hx)
      exact ⟨_, w1, hk, rfl, q1, _, _, _, q2⟩
    · exact hk.elim
  · exact hk'.elim
end Go.Vm

namespace Go.Vm
variable {Γ : Nat → Option (List V)} {X : Ctx} {N : Nat} {ds : List Deferred} {σ : VS} {a : Act} {w w' : World} {G G' : GG} {St St' : Nat → Nat → Prop} {own : Nat → Prop} {P : Program} {K : Eff → Prop}

def Gives (P : Program) (σ : VS) (G : GG) (St : Nat → Nat → Prop) (w : World) (s : Sem Value) (K : Eff → Prop) : Prop :=
  ∃ e u, K e ∧ e.wr = [] ∧ s.run P w = .ok u w ∧ repLv σ.mem G St (rdW w) e.val u

theorem flq_some {t f : Nat} {q : Nat × Nat × Nat} (h : flq P t f = some q) : ∃ fs x m, P.underlying t = some (.struct fs) ∧ fs[f]? = some x ∧ x.type = q.1 ∧ x.offset = q.2.1 ∧ szq P x.type = some (m + 1) ∧ q.2.2 = m + 1 := by
  unfold flq at h
  split at h
  · rename_i fs hu
    split at h
    · rename_i x hx
      split at h
      · rename_i n hn; cases h; exact ⟨fs, x, n, hu, hx, rfl, rfl, hn, rfl⟩
      · cases h
    · cases h
  · cases h

theorem pval {x : V} {v : Value} {mem : Key → M} {rd : Nat → Nat → Option Value} (h : repLv mem G St rd (.p x) v) : repC St rd x v.cells.toList ∧ Value.isAgg v = x.isAgg := by simpa only [repLv, rep] using h
theorem val_of_one {v u : Value} (h : v.cells.toList = [u]) (ha : Value.isAgg v = false) : v = u := by
  cases v <;> first | (simp [Value.isAgg] at ha; done) | (simpa [Value.cells] using h)
theorem pint {k : IntKind} {n : Int} {v : Value} {mem : Key → M} {rd : Nat → Nat → Option Value} (h : repLv mem G St rd (.p (.i k n)) v) : v = .int k n := by
  obtain ⟨h1, h2⟩ := pval h; simp only [repC] at h1; exact val_of_one h1 h2
theorem pbool {x : Bool} {v : Value} {mem : Key → M} {rd : Nat → Nat → Option Value} (h : repLv mem G St rd (.p (.b x)) v) : v = .bool x := by
  obtain ⟨h1, h2⟩ := pval h; simp only [repC] at h1; exact val_of_one h1 h2
theorem pstr {x : ByteArray} {v : Value} {mem : Key → M} {rd : Nat → Nat → Option Value} (h : repLv mem G St rd (.p (.s x)) v) : v = .string x := by
  obtain ⟨h1, h2⟩ := pval h; simp only [repC] at h1; exact val_of_one h1 h2
theorem pref {cs : List V} {v : Value} {mem : Key → M} {rd : Nat → Nat → Option Value} (h : repLv mem G St rd (.p (.ref cs)) v) : ∃ b o, v = .pointer (some ⟨b, o, none⟩) ∧ repA St rd cs b o := by
  obtain ⟨h1, h2⟩ := pval h; simp only [repC] at h1
  obtain ⟨b, o, e, p⟩ := h1
  exact ⟨b, o, val_of_one e h2, p⟩
theorem psl {xs : List V} {v : Value} {mem : Key → M} {rd : Nat → Nat → Option Value} (h : repLv mem G St rd (.p (.sl xs)) v) :
    (xs = [] ∧ ∃ a c, v = .slice a 0 c) ∨ ∃ b o cap sz, v = .slice (some ⟨b, o, none⟩) xs.length cap ∧ xs.length ≤ cap ∧ repE St rd xs b sz o := by
  obtain ⟨h1, h2⟩ := pval h; simp only [repC] at h1
  rcases h1 with ⟨p, a, c, q⟩ | ⟨b, o, cap, sz, e, p, q⟩
  · exact .inl ⟨p, a, c, val_of_one q h2⟩
  · exact .inr ⟨b, o, cap, sz, val_of_one e h2, p, q⟩
theorem pagg {cs : List V} {v : Value} {mem : Key → M} {rd : Nat → Nat → Option Value} (h : repLv mem G St rd (.p (.agg cs)) v) : ∃ vs, v = .agg vs ∧ repL St rd cs vs.toList := by
  obtain ⟨h1, h2⟩ := pval h; simp only [repC] at h1
  cases v <;> first | (simp [Value.isAgg, V.isAgg] at h2; done) | skip
  rename_i vs
  exact ⟨vs, rfl, h1⟩
theorem mk_int {k : IntKind} {n : Int} {mem : Key → M} {rd : Nat → Nat → Option Value} : repLv mem G St rd (.p (.i k n)) (.int k n) := by
  simp only [repLv, rep]; exact ⟨by simp [repC, Value.cells], rfl⟩
theorem mk_bool {x : Bool} {mem : Key → M} {rd : Nat → Nat → Option Value} : repLv mem G St rd (.p (.b x)) (.bool x) := by
  simp only [repLv, rep]; exact ⟨by simp [repC, Value.cells], rfl⟩
theorem mk_str {x : ByteArray} {mem : Key → M} {rd : Nat → Nat → Option Value} : repLv mem G St rd (.p (.s x)) (.string x) := by
  simp only [repLv, rep]; exact ⟨by simp [repC, Value.cells], rfl⟩
theorem mk_ref {cs : List V} {b o : Nat} {mem : Key → M} {rd : Nat → Nat → Option Value} (h : repA St rd cs b o) : repLv mem G St rd (.p (.ref cs)) (.pointer (some ⟨b, o, none⟩)) := by
  simp only [repLv, rep, repC]; exact ⟨⟨b, o, rfl, h⟩, rfl⟩
theorem repA_drop {rd : Nat → Nat → Option Value} : ∀ {cs : List V} {b o n : Nat}, repA St rd cs b o → repA St rd (cs.drop n) b (o + n)
  | [], _, _, _, _ => by simp [repA]
  | c :: cs, b, o, 0, h => h
  | c :: cs, b, o, n + 1, h => by
    simp only [repA] at h
    have := repA_drop (n := n) h.2
    rw [List.drop_succ_cons]
    rwa [Nat.add_right_comm, Nat.add_assoc] at this

theorem repLs_one {mem : Key → M} {rd : Nat → Nat → Option Value} {ls : List L} {vs : List Value} (hl : ls.all L.isCell = true) (hr : repLs mem G St rd ls vs) : ∀ v ∈ vs, v.oneCell' = true := fun v hv => by
  obtain ⟨i, hi⟩ := List.mem_iff_getElem?.1 hv
  obtain ⟨h1, h2⟩ := repLs_get.1 hr
  have hil : i < ls.length := by rw [h1]; exact (List.getElem?_eq_some_iff.1 hi).1
  exact isCell_one (List.all_eq_true.1 hl _ (List.getElem_mem hil)) (h2 i ls[i] v (by simp [hil]) hi)

theorem elem_ref {xs : List V} {b o sz es : Nat} {rd : Nat → Nat → Option Value} (h : repE St rd xs b sz o) {i : Nat} {x : V} (hx : xs[i]? = some x) (hes : x.cells.length = es) : repA St rd x.cells b (o + i * es) := by
  obtain ⟨vs, h1, h2, h3⟩ := repE_get.1 h i x hx
  have hl := repC_len _ _ h3
  have : sz = es := by omega
  subst this
  exact repA_at.2 ⟨vs, h2, (repC_cells _ _).1 h3⟩

theorem RepD.fieldAddr (_ : RepD Γ X N ds σ a w G St own) {t f : Nat} {x : L} {v : Value} (hv : repLv σ.mem G St (rdW w) x v) (hk : vfieldAddr P σ t x f K) : Gives P σ G St w (Instr.fieldAt t v f) K := by
  unfold vfieldAddr at hk
  obtain ⟨⟨ty, off, n⟩, hq, hk'⟩ := wantO_iff.1 hk
  obtain ⟨fs, fl, m, q1, q2, q3, q4, q5, q6⟩ := flq_some hq
  simp only at q3 q4 q6 hk'
  subst q4
  have hrun : ∀ b o, (Instr.fieldAt t (.pointer (some ⟨b, o, none⟩)) f).run P w = .ok (.pointer (some ⟨b, o + fl.offset, none⟩)) w := fun b o => by
    simp [Instr.fieldAt, run_underlying q1, q2, Instr.sureAddr, fieldPlace, run_sizeOf q5, add_addr]
  split at hk'
  · rename_i s j
    obtain ⟨m', hm, hk⟩ := wantO_iff.1 hk'
    obtain ⟨h1, hK⟩ := need_iff.1 hk
    simp only [repLv] at hv
    obtain ⟨rfl, _⟩ := hv
    refine ⟨_, _, hK, rfl, hrun _ _, ?_⟩
    simp only [repLv]
    exact ⟨trivial, m', boxN_some hm, by omega⟩
  · rename_i s g i j
    obtain ⟨q, hc, hK⟩ := wantO_iff.1 hk'
    have hm := curA_some hc
    simp only [repLv] at hv
    obtain ⟨g', e, es, xs, p1, p2, p3⟩ := hv
    rw [hm] at p1; cases p1
    obtain ⟨blk, r1, r2, rfl⟩ := p3 rfl
    refine ⟨_, _, hK, rfl, hrun _ _, ?_⟩
    simp only [repLv]
    exact ⟨g, _, _, _, hm, Nat.le_refl _, fun _ => ⟨blk, r1, r2, by rw [Nat.add_assoc]⟩⟩
  · rename_i cs
    obtain ⟨b, o, rfl, hA⟩ := pref hv
    exact ⟨_, _, hk', rfl, hrun _ _, mk_ref (repA_drop hA)⟩
  · exact hk'.elim

theorem RepD.indexAddr (h : RepD Γ X N ds σ a w G St own) {t : TypeId} {x i : L} {v u : Value} (hv : repLv σ.mem G St (rdW w) x v) (hu : repLv σ.mem G St (rdW w) i u) (hk : vindexAddr P σ t x i K) :
    Gives P σ G St w (Instr.indexAt t v u) K := by
  unfold vindexAddr at hk
  split at hk
  · rename_i s g k n
    obtain ⟨e, he, hk⟩ := wantO_iff.1 hk
    obtain ⟨es, hes, hk⟩ := wantO_iff.1 hk
    obtain ⟨⟨⟨e', es'⟩, xs⟩, hc, hk⟩ := wantO_iff.1 hk
    obtain ⟨⟨h1, h2, h3⟩, hK⟩ := need_iff.1 hk
    have hm := curA_some hc
    simp only at hm h1 h3
    subst h1
    have hu := pint hu
    subst hu
    have hva := h.arrVal hm hv
    obtain ⟨_, vs, ⟨hlen, ho⟩, _⟩ := h.arrs s g _ _ _ hm
    rcases ho with ⟨_, h0⟩ | ⟨blk, cap, cur, hav, _⟩
    · omega
    rw [hav] at hva
    subst hva
    refine ⟨_, .pointer (some ⟨blk, n.toNat * es', none⟩), hK, rfl, ?_, ?_⟩
    · simp [Instr.indexAt, run_underlying (elq_some he), asIntOf, h2, h3, run_sizeOf hes, add_addr]
    · simp only [repLv]
      exact ⟨g, _, _, _, hm, Nat.le_refl _, fun _ => ⟨blk, by rw [hav]; rfl, by omega, by simp⟩⟩
  · rename_i xs k n
    obtain ⟨e, he, hk⟩ := wantO_iff.1 hk
    obtain ⟨es, hes, hk⟩ := wantO_iff.1 hk
    obtain ⟨y, h0, hy, hk⟩ := hk
    obtain ⟨h1, hK⟩ := need_iff.1 hk
    have hu := pint hu
    subst hu
    have hlt : n.toNat < xs.length := (List.getElem?_eq_some_iff.1 hy).1
    rcases psl hv with ⟨rfl, _⟩ | ⟨b, o, cap, sz, rfl, _, hE⟩
    · simp at hy
    refine ⟨_, .pointer (some ⟨b, o + n.toNat * es, none⟩), hK, rfl, ?_, mk_ref (elem_ref hE hy h1)⟩
    have : n < xs.length := by omega
    simp [Instr.indexAt, run_underlying (elq_some he), asIntOf, h0, this, run_sizeOf hes, add_addr]
  · rename_i s j k n
    obtain ⟨⟨len, e⟩, he, hk⟩ := wantO_iff.1 hk
    obtain ⟨es, hes, hk⟩ := wantO_iff.1 hk
    obtain ⟨m, hm, hk⟩ := wantO_iff.1 hk
    obtain ⟨⟨h1, h2, h3⟩, hK⟩ := need_iff.1 hk
    have hu := pint hu
    subst hu
    simp only [repLv] at hv
    obtain ⟨rfl, m', hm', hj⟩ := hv
    have hb := boxN_some hm
    rw [hb] at hm'; cases hm'
    refine ⟨_, .pointer (some ⟨G.bk s, j + n.toNat * es, none⟩), hK, rfl, ?_, ?_⟩
    · simp [Instr.indexAt, run_underlying (arq_some he), asIntOf, Instr.sureAddr, h1, h2, run_sizeOf hes, add_addr]
    · simp only [repLv]
      refine ⟨trivial, m, hb, ?_⟩
      have : n.toNat * es ≤ len * es := Nat.mul_le_mul_right _ (by omega)
      rcases Nat.eq_zero_or_pos es with h0 | h0
      · subst h0; simp; omega
      · have : n.toNat * es + es ≤ len * es := by rw [← Nat.succ_mul]; exact Nat.mul_le_mul_right _ (by omega)
        omega
  · rename_i cs k n
    obtain ⟨⟨len, e⟩, he, hk⟩ := wantO_iff.1 hk
    obtain ⟨es, hes, hk⟩ := wantO_iff.1 hk
    obtain ⟨⟨h1, h2, h3⟩, hK⟩ := need_iff.1 hk
    have hu := pint hu
    subst hu
    obtain ⟨b, o, rfl, hA⟩ := pref hv
    refine ⟨_, .pointer (some ⟨b, o + n.toNat * es, none⟩), hK, rfl, ?_, mk_ref (repA_drop hA)⟩
    simp [Instr.indexAt, run_underlying (arq_some he), asIntOf, Instr.sureAddr, h1, h2, run_sizeOf hes, add_addr]
  · rename_i s k n
    obtain ⟨e, he, hk⟩ := wantO_iff.1 hk
    obtain ⟨es, hes, hk⟩ := wantO_iff.1 hk
    obtain ⟨m, hm, hk⟩ := wantO_iff.1 hk
    obtain ⟨⟨h1, h2, h3⟩, hK⟩ := need_iff.1 hk
    have hu := pint hu
    subst hu
    subst h1
    have hb := boxN_some hm
    simp only [repLv] at hv
    obtain ⟨n', hb', rfl⟩ := hv
    rw [hb] at hb'; cases hb'
    refine ⟨_, .pointer (some ⟨G.bk s, n.toNat, none⟩), hK, rfl, ?_, ?_⟩
    · simp [Instr.indexAt, run_underlying (elq_some he), asIntOf, h2, h3, run_sizeOf hes, add_addr]
    · simp only [repLv]
      exact ⟨trivial, m, hb, by omega⟩
  · exact hk.elim

theorem RepD.part (_ : RepD Γ X N ds σ a w G St own) {t off : Nat} {x : L} {cs : Array Value} (hv : repLv σ.mem G St (rdW w) x (.agg cs)) (hk : vpart P t x off K) : Gives P σ G St w (part t cs off) K := by
  unfold vpart at hk
  obtain ⟨n, hn, hk'⟩ := wantO_iff.1 hk
  clear hk
  obtain ⟨ag, ha, hk⟩ := wantO_iff.1 hk'
  clear hk'
  have run1 : ∀ vs : List Value, (cs.toList.drop off).take n = vs → off + n ≤ cs.size → ag = true → (Go.part t cs off).run P w = .ok (.agg vs.toArray) w := fun vs hvs hle hag => by
    subst hag
    have : cs.extract off (off + n) = vs.toArray := by
      rw [← hvs]; apply Array.toList_inj.1; simp [List.take_drop]
    simp [Go.part, run_isAgg ha, run_sizeOf hn, this]
  have run2 : ∀ u, (cs.toList.drop off).take n = [u] → ag = false → (Go.part t cs off).run P w = .ok u w := fun u hu hag => by
    subst hag
    have h1 : cs[off]? = some u := by
      have : ((cs.toList.drop off).take n)[0]? = some u := by rw [hu]; rfl
      have hn0 : 0 < n := by rcases Nat.eq_zero_or_pos n with h | h
                             · subst h; simp at hu
                             · exact h
      rw [List.getElem?_take_of_lt hn0, List.getElem?_drop] at this
      simpa using this
    simp [Go.part, run_isAgg ha, h1]
  split at hk
  · rename_i cs0
    obtain ⟨c1, hc1, hk⟩ := wantO_iff.1 hk
    obtain ⟨y, hy, hK⟩ := wantO_iff.1 hk
    obtain ⟨vs, e, hL⟩ := pagg hv
    cases e
    obtain ⟨k1, k2⟩ := repL_sub hL hc1
    obtain ⟨u1, u2⟩ := repLv_unAggV (mem := σ.mem) (G := G) k1 hy
    cases hag : ag with
    | true => exact ⟨_, _, hK, rfl, run1 _ rfl (by simpa using k2) hag, u1 hag⟩
    | false =>
      obtain ⟨u, hu, hr⟩ := u2 hag
      exact ⟨_, _, hK, rfl, run2 u hu hag, hr⟩
  · rename_i ls
    obtain ⟨⟨h1, h1'⟩, hk⟩ := need_iff.1 hk
    obtain ⟨l, hl, hK⟩ := wantO_iff.1 hk
    simp only [repLv] at hv
    obtain ⟨vs, e, hL⟩ := hv
    cases e
    have hlen := repLs_length hL
    have hsub := repLs_take (repLs_drop hL off) n
    unfold unAgg at hl
    split at hl
    · rename_i hag
      cases hl
      exact ⟨_, _, hK, rfl, run1 _ rfl (by simp at hlen; omega) hag, repLv_mkAgg hsub (repLs_one h1' hsub)⟩
    · rename_i hag
      split at hl
      · rename_i l0 hl0
        cases hl
        rw [hl0] at hsub
        simp only [repLs] at hsub
        obtain ⟨u, r, hu, q1, rfl⟩ := hsub
        exact ⟨_, _, hK, rfl, run2 u hu (by simpa using hag), q1⟩
      · cases hl
  · exact hk.elim
end Go.Vm

namespace Go.Vm
variable {Γ : Nat → Option (List V)} {X : Ctx} {N : Nat} {ds : List Deferred} {σ : VS} {a : Act} {w w' : World} {G G' : GG} {St St' : Nat → Nat → Prop} {own : Nat → Prop} {P : Program} {K : Eff → Prop}

def Val (P : Program) (t : TypeId) (cs : List Value) (u : Value) : Prop :=
  (∃ fs, P.underlying t = some (.struct fs) ∧ u = .agg cs.toArray) ∨ (agq P t = some false ∧ cs = [u])

theorem eqvs_split : ∀ {n : Nat} {xs ys : List V} {r : Bool}, eqvs xs ys = some r → xs.length = ys.length ∧ ∃ r1 r2, eqvs (xs.take n) (ys.take n) = some r1 ∧ eqvs (xs.drop n) (ys.drop n) = some r2 ∧ r = (r1 && r2)
  | n, [], [], r, h => by simp only [eqvs, Option.some.injEq] at h; subst h; simp [eqvs]
  | n, x :: xs, y :: ys, r, h => by
    simp only [eqvs] at h
    split at h
    · rename_i p q hp hq
      cases h
      cases n with
      | zero =>
        obtain ⟨hl, _⟩ := eqvs_split (n := 0) hq
        refine ⟨by simp [hl], true, _, rfl, ?_, rfl⟩
        simp only [List.drop_zero, eqvs, hp, hq]; cases p <;> rfl
      | succ n =>
        obtain ⟨hl, r1, r2, h1, h2, rfl⟩ := eqvs_split (n := n) hq
        refine ⟨by simp [hl], p && r1, r2, ?_, by simpa using h2, by rw [Bool.and_assoc]⟩
        simp only [List.take_succ_cons, eqvs, hp, h1]
    · cases h
  | n, [], _ :: _, r, h => by simp [eqvs] at h
  | n, _ :: _, [], r, h => by simp [eqvs] at h
theorem agq_of {t : TypeId} {d : TypeDesc} (h : P.underlying t = some d) (h1 : ∀ fs, d ≠ .struct fs) (h2 : ∀ n e, d ≠ .array n e) : agq P t = some false := by
  unfold agq; rw [h]; cases d <;> first | rfl | exact (h1 _ rfl).elim | exact (h2 _ _ rfl).elim

theorem run_part_val {t off n : Nat} {cs : List Value} {all : Array Value} (hn : szq P t = some n) (hv : (∃ fs, P.underlying t = some (.struct fs)) ∨ (agq P t = some false ∧ n = 1)) (hcs : (all.toList.drop off).take n = cs) (hle : off + n ≤ all.size) (w : World) :
    ∃ u, (Go.part t all off).run P w = .ok u w ∧ Val P t cs u := by
  rcases hv with ⟨fs, hf⟩ | ⟨ha, rfl⟩
  · have ha : agq P t = some true := by unfold agq; rw [hf]
    have : all.extract off (off + n) = cs.toArray := by
      rw [← hcs]; apply Array.toList_inj.1; simp [List.take_drop]
    exact ⟨.agg cs.toArray, by simp [Go.part, run_isAgg ha, run_sizeOf hn, this], .inl ⟨fs, hf, rfl⟩⟩
  · have h1 : off < all.size := by omega
    refine ⟨all[off], by simp [Go.part, run_isAgg ha, h1], .inr ⟨ha, ?_⟩⟩
    rw [← hcs]
    apply List.ext_getElem?
    intro j
    cases j with
    | zero => simp [h1]
    | succ j => rw [List.getElem?_eq_none (by simp; omega), List.getElem?_eq_none (by simp)]

theorem flat_ok : ∀ (d : Nat) (t : TypeId) (ks : List Nat), flat P d t = some ks → ((∃ fs, P.underlying t = some (.struct fs)) ∨ (agq P t = some false ∧ ks.length = 1)) ∧
    ∀ {St : Nat → Nat → Prop} {rd : Nat → Nat → Option Value} (xs ys : List V) (cx cy : List Value) (r : Bool), xs.map V.kd = ks → repL St rd xs cx → repL St rd ys cy → eqvs xs ys = some r →
      ∀ u v, Val P t cx u → Val P t cy v → ∀ (k : Nat) (w : World), d ≤ k → (Op.equalIn k t u v).run P w = .ok r w
  | 0, t, ks, h => by simp [flat] at h
  | d + 1, t, ks, h => by
    simp only [flat] at h
    -- the scalar kinds
    have one : ∀ {x y : List V} {cx cy : List Value} {u v : Value} {r : Bool} {St : Nat → Nat → Prop} {rd : Nat → Nat → Option Value}, agq P t = some false → repL St rd x cx → repL St rd y cy → eqvs x y = some r → Val P t cx u → Val P t cy v → x.length = 1 →
        ∃ x1 y1, x = [x1] ∧ y = [y1] ∧ repC St rd x1 [u] ∧ repC St rd y1 [v] ∧ eqvV x1 y1 = some r := by
      intro x y cx cy u v r St rd ha hx hy he hu hv hl
      have ns : ¬ ∃ fs, P.underlying t = some (.struct fs) := by rintro ⟨fs, hf⟩; simp [agq, hf] at ha
      rcases hu with ⟨fs, hf, _⟩ | ⟨_, rfl⟩
      · exact (ns ⟨fs, hf⟩).elim
      rcases hv with ⟨fs, hf, _⟩ | ⟨_, rfl⟩
      · exact (ns ⟨fs, hf⟩).elim
      match x, hl with
      | [x1], _ =>
        obtain ⟨hle, _⟩ := eqvs_split (n := 0) he
        match y, hle with
        | [y1], _ =>
          simp only [eqvs] at he
          split at he
          · rename_i p q hp hq
            cases hq; cases he
            simp only [repL, List.cons.injEq] at hx hy
            obtain ⟨v1, r1, ⟨rfl, rfl⟩, ⟨_, h1⟩, _⟩ := hx
            obtain ⟨v2, r2, ⟨rfl, rfl⟩, ⟨_, h2⟩, _⟩ := hy
            exact ⟨x1, y1, rfl, rfl, h1, h2, by simpa using hp⟩
          · cases he
    split at h
    · rename_i hu
      cases h
      have ha := agq_of hu (by simp) (by simp)
      refine ⟨.inr ⟨ha, rfl⟩, fun xs ys cx cy r hk hx hy he u v hvu hvv k w hle => ?_⟩
      obtain ⟨x1, y1, rfl, rfl, h1, h2, h3⟩ := one ha hx hy he hvu hvv (by have := congrArg List.length hk; simpa using this)
      obtain ⟨k, rfl⟩ : ∃ j, k = j + 1 := ⟨k - 1, by omega⟩
      cases x1 <;> simp [V.kd] at hk
      cases y1 <;> simp [eqvV] at h3
      simp only [repC, List.cons.injEq, and_true] at h1 h2
      subst h1; subst h2; subst h3
      simp [Op.equalIn, run_underlying hu]
    · rename_i kd hu
      cases h
      have ha := agq_of hu (by simp) (by simp)
      refine ⟨.inr ⟨ha, rfl⟩, fun xs ys cx cy r hk hx hy he u v hvu hvv k w hle => ?_⟩
      obtain ⟨x1, y1, rfl, rfl, h1, h2, h3⟩ := one ha hx hy he hvu hvv (by have := congrArg List.length hk; simpa using this)
      obtain ⟨k, rfl⟩ : ∃ j, k = j + 1 := ⟨k - 1, by omega⟩
      cases x1 <;> simp [V.kd] at hk
      cases y1 <;> simp [eqvV] at h3
      simp only [repC, List.cons.injEq, and_true] at h1 h2
      subst h1; subst h2
      obtain ⟨hk, h3⟩ := h3
      subst hk; subst h3
      simp [Op.equalIn, run_underlying hu]
    · rename_i hu
      cases h
      have ha := agq_of hu (by simp) (by simp)
      refine ⟨.inr ⟨ha, rfl⟩, fun xs ys cx cy r hk hx hy he u v hvu hvv k w hle => ?_⟩
      obtain ⟨x1, y1, rfl, rfl, h1, h2, h3⟩ := one ha hx hy he hvu hvv (by have := congrArg List.length hk; simpa using this)
      obtain ⟨k, rfl⟩ : ∃ j, k = j + 1 := ⟨k - 1, by omega⟩
      cases x1 <;> simp [V.kd] at hk
      cases y1 <;> simp [eqvV] at h3
      simp only [repC, List.cons.injEq, and_true] at h1 h2
      subst h1; subst h2; subst h3
      simp [Op.equalIn, run_underlying hu, beq_toListBytes]
    · rename_i fs hu
      split at h
      · cases h
      rename_i hst
      refine ⟨.inl ⟨fs, hu⟩, fun {St rd} xs ys cx cy r hk hx hy he u v hvu hvv k w hle => ?_⟩
      obtain ⟨k, rfl⟩ : ∃ j, k = j + 1 := ⟨k - 1, by omega⟩
      have na : agq P t ≠ some false := by simp [agq, hu]
      have eu : u = .agg cx.toArray := by
        rcases hvu with ⟨_, _, e⟩ | ⟨ha, _⟩
        · exact e
        · exact (na ha).elim
      have ev : v = .agg cy.toArray := by
        rcases hvv with ⟨_, _, e⟩ | ⟨ha, _⟩
        · exact e
        · exact (na ha).elim
      subst eu; subst ev
      have hf : P.underlying t = some (.struct (P.fieldsOf t)) := by rw [hu]; simp [Program.fieldsOf, hu]
      have hfs : P.fieldsOf t = fs := by rw [hu] at hf; cases hf; rfl
      rw [run_equalIn_agg w k t _ _ hf (by simpa using hst), hfs]
      have hxy := (eqvs_split (n := 0) he).1
      -- the fields, one by one
      have key : ∀ (l : List Field) (o : Nat) (ks : List Nat), flatFs P (flat P d) l o = some ks → (xs.map V.kd).drop o = ks → o ≤ xs.length → ∀ r, eqvs (xs.drop o) (ys.drop o) = some r →
          (Op.eqFields k cx.toArray cy.toArray l).run P w = .ok r w := by
        intro l
        induction l with
        | nil =>
          intro o ks hl hko hox r he
          simp only [flatFs, Option.some.injEq] at hl
          subst hl
          have : xs.length ≤ o := by have := congrArg List.length hko; simp at this; omega
          rw [List.drop_eq_nil_of_le this, List.drop_eq_nil_of_le (by omega)] at he
          simp only [eqvs, Option.some.injEq] at he
          subst he
          simp [Op.eqFields]
        | cons f l ih =>
          intro o ks hl hko hox r he
          simp only [flatFs] at hl
          split at hl
          · cases hl
          rename_i hn
          have hname : f.name ≠ "_" := fun e => hn (.inl e)
          have hoff : f.offset = o := Classical.byContradiction fun e => hn (.inr e)
          clear hn
          subst hoff
          split at hl
          · rename_i kf hkf
            split at hl
            · rename_i hsz
              obtain ⟨kr, hkr, rfl⟩ := Option.map_eq_some_iff.1 hl
              obtain ⟨g1, g2⟩ := flat_ok d f.type kf hkf
              obtain ⟨hlen, r1, r2, e1, e2, rfl⟩ := eqvs_split (n := kf.length) he
              have lx := repL_len _ _ hx
              have ly := repL_len _ _ hy
              have hko2 := congrArg List.length hko
              simp at hko2 hlen
              have sx : repL St rd ((xs.drop f.offset).take kf.length) ((cx.drop f.offset).take kf.length) ∧ f.offset + kf.length ≤ cx.length := repL_sub hx (by unfold sub; rw [if_pos (by omega)])
              have sy : repL St rd ((ys.drop f.offset).take kf.length) ((cy.drop f.offset).take kf.length) ∧ f.offset + kf.length ≤ cy.length := repL_sub hy (by unfold sub; rw [if_pos (by omega)])
              obtain ⟨u1, ru1, vu1⟩ := run_part_val (P := P) (all := cx.toArray) hsz g1 rfl (by simpa using sx.2) w
              obtain ⟨v1, rv1, vv1⟩ := run_part_val (P := P) (all := cy.toArray) hsz g1 rfl (by simpa using sy.2) w
              have hkf' : ((xs.drop f.offset).take kf.length).map V.kd = kf := by
                rw [List.map_take, List.map_drop, hko, List.take_left]
              have heq := g2 _ _ _ _ r1 hkf' sx.1 sy.1 e1 u1 v1 vu1 vv1 k w (by omega)
              have hrest := ih (f.offset + kf.length) kr hkr (by rw [← List.drop_drop, hko, List.drop_left]) (by omega) r2 (by rw [← List.drop_drop, ← List.drop_drop]; exact e2)
              simp only [Op.eqFields, hname, ne_eq, not_false_eq_true, if_true, Sem.run_bind, ru1, rv1, heq, Result.andThen_ok]
              cases r1 with
              | true => simpa using hrest
              | false => simp
            · cases hl
          · cases hl
      exact key fs.toList 0 ks h (by simpa using hk) (Nat.zero_le _) r (by simpa using he)
    · cases h

theorem run_equalIn_two (d : Nat) (t e n : Nat) (xs ys : Array Value) (x0 x1 y0 y1 : Value) (r0 r1 : Bool) (w : World) (ht : P.underlying t = some (.array 2 e)) (hn : szq P e = some n)
    (hx0 : (Go.part e xs 0).run P w = .ok x0 w) (hx1 : (Go.part e xs n).run P w = .ok x1 w) (hy0 : (Go.part e ys 0).run P w = .ok y0 w) (hy1 : (Go.part e ys n).run P w = .ok y1 w)
    (h0 : (Op.equalIn d e x0 y0).run P w = .ok r0 w) (h1 : (Op.equalIn d e x1 y1).run P w = .ok r1 w) : (Op.equalIn (d + 1) t (.agg xs) (.agg ys)).run P w = .ok (r0 && r1) w := by
  have hr : (List.range' 0 2 1) = [0, 1] := rfl
  simp only [Op.equalIn, Sem.run_bind, run_underlying ht, Result.andThen_ok, run_sizeOf hn, Std.Legacy.Range.forIn_eq_forIn_range', Std.Legacy.Range.size, Nat.sub_zero, Nat.add_sub_cancel, Nat.div_one, hr]
  simp [hx0, hx1, hy0, hy1, h0, h1]
  cases r0 <;> cases r1 <;> simp
theorem cmpq_eq {t : TypeId} {xs ys : List V} {r : Bool} {cx cy : Array Value} {rd : Nat → Nat → Option Value} (hc : cmpq P t = some (xs.map V.kd)) (he : eqvs xs ys = some r) (hx : repL St rd xs cx.toList) (hy : repL St rd ys cy.toList) (w : World) :
    (Op.equalIn 10000 t (.agg cx) (.agg cy)).run P w = .ok r w ∧ P.eqGuardType P.depth t = false := by
  unfold cmpq at hc
  split at hc
  · rename_i fs hu
    split at hc
    · cases hc
    · rename_i hg
      exact ⟨(flat_ok 9 t _ hc).2 xs ys _ _ r rfl hx hy he _ _ (.inl ⟨fs, hu, rfl⟩) (.inl ⟨fs, hu, rfl⟩) 10000 w (by omega), by simpa using hg⟩
  · rename_i n e hu
    split at hc
    · rename_i hn2
      subst hn2
      split at hc
      · cases hc
      · rename_i hg
        refine ⟨?_, by simpa using hg⟩
        split at hc
        · rename_i ks hks
          split at hc
          · rename_i hsz
            have hk : ks ++ ks = xs.map V.kd := by simpa using hc
            obtain ⟨g1, g2⟩ := flat_ok 9 e ks hks
            obtain ⟨hlen, r1, r2, e1, e2, rfl⟩ := eqvs_split (n := ks.length) he
            have lx := repL_len _ _ hx
            have ly := repL_len _ _ hy
            have hl := congrArg List.length hk
            simp only [List.length_append, List.length_map] at hl
            have k1 : (xs.take ks.length).map V.kd = ks := by rw [List.map_take, ← hk, List.take_left]
            have k2 : (xs.drop ks.length).map V.kd = ks := by rw [List.map_drop, ← hk, List.drop_left]
            have sx0 : repL St rd ((xs.drop 0).take ks.length) ((cx.toList.drop 0).take ks.length) ∧ 0 + ks.length ≤ cx.toList.length := repL_sub hx (by unfold sub; rw [if_pos (by omega)])
            have sy0 : repL St rd ((ys.drop 0).take ks.length) ((cy.toList.drop 0).take ks.length) ∧ 0 + ks.length ≤ cy.toList.length := repL_sub hy (by unfold sub; rw [if_pos (by omega)])
            have sx1 : repL St rd ((xs.drop ks.length).take ks.length) ((cx.toList.drop ks.length).take ks.length) ∧ ks.length + ks.length ≤ cx.toList.length := repL_sub hx (by unfold sub; rw [if_pos (by omega)])
            have sy1 : repL St rd ((ys.drop ks.length).take ks.length) ((cy.toList.drop ks.length).take ks.length) ∧ ks.length + ks.length ≤ cy.toList.length := repL_sub hy (by unfold sub; rw [if_pos (by omega)])
            obtain ⟨u0, ru0, vu0⟩ := run_part_val (P := P) (off := 0) (all := cx) hsz g1 rfl (by have := sx0.2; simp at this ⊢; omega) w
            obtain ⟨v0, rv0, vv0⟩ := run_part_val (P := P) (off := 0) (all := cy) hsz g1 rfl (by have := sy0.2; simp at this ⊢; omega) w
            obtain ⟨u1, ru1, vu1⟩ := run_part_val (P := P) (all := cx) hsz g1 rfl (by simpa using sx1.2) w
            obtain ⟨v1, rv1, vv1⟩ := run_part_val (P := P) (all := cy) hsz g1 rfl (by simpa using sy1.2) w
            rw [List.drop_zero] at sx0 sy0
            have tx : (xs.drop ks.length).take ks.length = xs.drop ks.length := List.take_of_length_le (by rw [List.length_drop]; omega)
            have ty : (ys.drop ks.length).take ks.length = ys.drop ks.length := List.take_of_length_le (by rw [List.length_drop]; omega)
            rw [tx] at sx1
            rw [ty] at sy1
            have q0 := g2 _ _ _ _ r1 k1 sx0.1 sy0.1 e1 u0 v0 vu0 vv0 9999 w (by omega)
            have q1 := g2 _ _ _ _ r2 k2 sx1.1 sy1.1 e2 u1 v1 vu1 vv1 9999 w (by omega)
            exact run_equalIn_two 9999 t e _ cx cy u0 u1 v0 v1 r1 r2 w hu hsz ru0 ru1 rv0 rv1 q0 q1
          · cases hc
        · cases hc
    · cases hc
  · cases hc
end Go.Vm

namespace Go.Vm
variable {Γ : Nat → Option (List V)} {X : Ctx} {N : Nat} {ds : List Deferred} {σ : VS} {a : Act} {w w' : World} {G G' : GG} {St St' : Nat → Nat → Prop} {own : Nat → Prop} {P : Program} {K : Eff → Prop}

theorem Gives.mk {s : Sem Value} {e : Eff} {u : Value} (hK : K e) (hw : e.wr = []) (hr : s.run P w = .ok u w) (hv : repLv σ.mem G St (rdW w) e.val u) : Gives P σ G St w s K := ⟨e, u, hK, hw, hr, hv⟩

theorem isNil_ok (h : RepD Γ X N ds σ a w G St own) {x : L} {u : Value} {r : Bool} (hx : repLv σ.mem G St (rdW w) x u) (hr : isNil σ x = some r) : ∃ b n c, u = .slice b n c ∧ b.isNone = r := by
  unfold isNil at hr
  split at hr
  · cases hr; simp only [repLv] at hx; exact ⟨none, 0, 0, hx, rfl⟩
  · cases hr; simp only [repLv] at hx; obtain ⟨a, c, rfl, h⟩ := hx; exact ⟨a, 0, c, rfl, h⟩
  · cases hr
    rcases psl hx with ⟨h, _⟩ | ⟨b, o, cap, sz, rfl, _, _⟩
    · cases h
    · exact ⟨_, _, _, rfl, rfl⟩
  · rename_i t g
    split at hr
    · rename_i q x xs hc
      cases hr
      have hm := curA_some hc
      have := h.arrVal hm hx
      obtain ⟨_, vs, ⟨_, ho⟩, _⟩ := h.arrs t g _ _ _ hm
      rcases ho with ⟨_, h0⟩ | ⟨blk, cap, cur, hav, _⟩
      · simp at h0
      · rw [this, hav]; exact ⟨_, _, _, rfl, rfl⟩
    · cases hr
  · cases hr
theorem isNilI_ok {x : L} {u : Value} {r : Bool} {mem : Key → M} {rd : Nat → Nat → Option Value} (hx : repLv mem G St rd x u) (hr : isNilI x = some r) : (u = .nilIface ∧ r = true) ∨ (∃ t v, u = .iface t v) ∧ r = false := by
  unfold isNilI at hr
  split at hr
  · cases hr
    obtain ⟨h1, h2⟩ := pval hx; simp only [repC] at h1
    exact .inl ⟨val_of_one h1 h2, rfl⟩
  · cases hr
    obtain ⟨h1, h2⟩ := pval hx; simp only [repC] at h1
    obtain ⟨y, e, _⟩ := h1
    exact .inr ⟨⟨_, _, val_of_one e h2⟩, rfl⟩
  · cases hr

theorem run_guard_ne {op : BinOp} {t : TypeId} {ox oy : Operand} {u v : Value} (h1 : u ≠ .nilIface ∨ v ≠ .nilIface) (h2 : (∀ c, u ≠ .agg c) ∨ ∀ c, v ≠ .agg c) (w : World) : (eqGuard op t ox oy u v).run P w = .ok () w := by
  cases op <;> simp only [eqGuard] <;> first | rfl | skip
  all_goals
    cases u <;> cases v <;> first | rfl | (simp at h1; done) | (simp at h2; done)
theorem run_guard_nil {op : BinOp} {t : TypeId} {ox oy : Operand} (hc : Operand.isConst oy = true) (w : World) : (eqGuard op t ox oy .nilIface .nilIface).run P w = .ok () w := by
  cases oy <;> simp [Operand.isConst] at hc
  cases op <;> simp [eqGuard]
theorem run_bin {op : BinOp} {t : TypeId} {ox oy : Operand} {u v r : Value} {w : World} (hg : (eqGuard op t ox oy u v).run P w = .ok () w) (hb : (binOp op t u v).run P w = .ok r w) : (do eqGuard op t ox oy u v; binOp op t u v : Sem Value).run P w = .ok r w := by
  rw [Sem.run_bind, hg]; exact hb
theorem run_equal_of {t : TypeId} {x y : Value} {r : Bool} {w : World} (h : ∀ d, (Op.equalIn (d + 1) t x y).run P w = .ok r w) : (Op.equal t x y).run P w = .ok r w := h 9999
theorem run_eql_of {t : TypeId} {x y : Value} {r : Bool} {w : World} (hb : binOp .eql t x y = (do pure (.bool (← Op.equal t x y)))) (h : ∀ d, (Op.equalIn (d + 1) t x y).run P w = .ok r w) : (binOp .eql t x y).run P w = .ok (.bool r) w := by
  rw [hb, Sem.run_bind, run_equal_of h]; rfl
theorem run_neq_of {t : TypeId} {x y : Value} {r : Bool} {w : World} (hb : binOp .neq t x y = (do pure (.bool (!(← Op.equal t x y))))) (h : ∀ d, (Op.equalIn (d + 1) t x y).run P w = .ok r w) : (binOp .neq t x y).run P w = .ok (.bool !r) w := by
  rw [hb, Sem.run_bind, run_equal_of h]; rfl
theorem run_eqIn_nn {t : TypeId} {ms : Array (String × TypeId)} (hu : P.underlying t = some (.interface ms)) (w : World) (d : Nat) : (Op.equalIn (d + 1) t .nilIface .nilIface).run P w = .ok true w := by
  simp [Op.equalIn, run_underlying hu]
theorem run_eqIn_in {t tt : TypeId} {x : Value} {ms : Array (String × TypeId)} (hu : P.underlying t = some (.interface ms)) (w : World) (d : Nat) : (Op.equalIn (d + 1) t (.iface tt x) .nilIface).run P w = .ok false w := by
  simp [Op.equalIn, run_underlying hu]
theorem run_eql_nn {t : TypeId} {ms : Array (String × TypeId)} (hu : P.underlying t = some (.interface ms)) (w : World) : (binOp .eql t .nilIface .nilIface).run P w = .ok (.bool true) w := run_eql_of rfl (run_eqIn_nn hu w)
theorem run_neq_nn {t : TypeId} {ms : Array (String × TypeId)} (hu : P.underlying t = some (.interface ms)) (w : World) : (binOp .neq t .nilIface .nilIface).run P w = .ok (.bool false) w := run_neq_of rfl (run_eqIn_nn hu w)
theorem run_eql_in {t tt : TypeId} {x : Value} {ms : Array (String × TypeId)} (hu : P.underlying t = some (.interface ms)) (w : World) : (binOp .eql t (.iface tt x) .nilIface).run P w = .ok (.bool false) w := run_eql_of rfl (run_eqIn_in hu w)
theorem run_neq_in {t tt : TypeId} {x : Value} {ms : Array (String × TypeId)} (hu : P.underlying t = some (.interface ms)) (w : World) : (binOp .neq t (.iface tt x) .nilIface).run P w = .ok (.bool true) w := run_neq_of rfl (run_eqIn_in hu w)

theorem RepD.bin (h : RepD Γ X N ds σ a w G St own) {t : TypeId} {op : BinOp} {x y : L} {ox oy : Operand} {u v : Value} (hx : repLv σ.mem G St (rdW w) x u) (hy : repLv σ.mem G St (rdW w) y v)
    (hk : vbin P t (Operand.isConst oy) σ op x y K) : Gives P σ G St w (do eqGuard op t ox oy u v; binOp op t u v) K := by
  unfold vbin at hk
  split at hk
  case h_1 k a k' b => obtain ⟨rfl, hK⟩ := need_iff.1 hk; rw [pint hx, pint hy]; exact .mk hK rfl (run_bin (run_guard_ne (.inl (by simp)) (.inl (by simp)) w) (by simp only [binOp]; simp [Op.intArith])) mk_int
  case h_2 k a k' b => obtain ⟨rfl, hK⟩ := need_iff.1 hk; rw [pint hx, pint hy]; exact .mk hK rfl (run_bin (run_guard_ne (.inl (by simp)) (.inl (by simp)) w) (by simp only [binOp]; simp [Op.intArith])) mk_int
  case h_3 k a k' b => obtain ⟨rfl, hK⟩ := need_iff.1 hk; rw [pint hx, pint hy]; exact .mk hK rfl (run_bin (run_guard_ne (.inl (by simp)) (.inl (by simp)) w) (by simp only [binOp]; simp [Op.intArith])) mk_int
  case h_4 k a k' b => obtain ⟨⟨rfl, hb⟩, hK⟩ := need_iff.1 hk; rw [pint hx, pint hy]; exact .mk hK rfl (run_bin (run_guard_ne (.inl (by simp)) (.inl (by simp)) w) (by simp only [binOp]; simp [Op.intDiv, hb])) mk_int
  case h_5 k a k' b => obtain ⟨⟨rfl, hb⟩, hK⟩ := need_iff.1 hk; rw [pint hx, pint hy]; exact .mk hK rfl (run_bin (run_guard_ne (.inl (by simp)) (.inl (by simp)) w) (by simp only [binOp]; simp [Op.intDiv, hb])) mk_int
  case h_6 k a k' b => obtain ⟨rfl, hK⟩ := need_iff.1 hk; rw [pint hx, pint hy]; exact .mk hK rfl (run_bin (run_guard_ne (.inl (by simp)) (.inl (by simp)) w) (by simp only [binOp]; simp [Op.intCmp])) mk_bool
  case h_7 k a k' b => obtain ⟨rfl, hK⟩ := need_iff.1 hk; rw [pint hx, pint hy]; exact .mk hK rfl (run_bin (run_guard_ne (.inl (by simp)) (.inl (by simp)) w) (by simp only [binOp]; simp [Op.intCmp])) mk_bool
  case h_8 k a k' b => obtain ⟨rfl, hK⟩ := need_iff.1 hk; rw [pint hx, pint hy]; exact .mk hK rfl (run_bin (run_guard_ne (.inl (by simp)) (.inl (by simp)) w) (by simp only [binOp]; simp [Op.intCmp])) mk_bool
  case h_9 k a k' b => obtain ⟨rfl, hK⟩ := need_iff.1 hk; rw [pint hx, pint hy]; exact .mk hK rfl (run_bin (run_guard_ne (.inl (by simp)) (.inl (by simp)) w) (by simp only [binOp]; simp [Op.intCmp])) mk_bool
  case h_10 k a k' b => obtain ⟨rfl, hK⟩ := need_iff.1 hk; rw [pint hx, pint hy]; exact .mk hK rfl (run_bin (run_guard_ne (.inl (by simp)) (.inl (by simp)) w) (by simp only [binOp]; simp [Op.intCmp])) mk_bool
  case h_11 k a k' b => obtain ⟨rfl, hK⟩ := need_iff.1 hk; rw [pint hx, pint hy]; exact .mk hK rfl (run_bin (run_guard_ne (.inl (by simp)) (.inl (by simp)) w) (by simp only [binOp]; simp [Op.intCmp])) mk_bool
  case h_12 a b =>
    obtain ⟨hs, hK⟩ := need_iff.1 hk; rw [pstr hx, pstr hy]
    have hs' : ¬ (a.size + b.size > 9223372036854775807) := by unfold maxBytes at hs; omega
    exact .mk hK rfl (run_bin (run_guard_ne (.inl (by simp)) (.inl (by simp)) w) (by simp only [binOp]; rw [run_string_add_if, if_neg hs'])) mk_str
  case h_13 a b => rw [pstr hx, pstr hy]; exact .mk hk rfl (run_bin (run_guard_ne (.inl (by simp)) (.inl (by simp)) w) (by simp only [binOp]; simp [Op.stringOp])) mk_bool
  case h_14 a b => rw [pstr hx, pstr hy]; exact .mk hk rfl (run_bin (run_guard_ne (.inl (by simp)) (.inl (by simp)) w) (by simp only [binOp]; simp [Op.stringOp])) mk_bool
  case h_15 a b =>
    obtain ⟨hb, hK⟩ := need_iff.1 hk; rw [pbool hx, pbool hy]
    have hu : P.underlying t = some .bool := by unfold isBool at hb; split at hb <;> first | assumption | cases hb
    exact .mk hK rfl (run_bin (run_guard_ne (.inl (by simp)) (.inl (by simp)) w) (run_eql_bool w t a b hu)) mk_bool
  case h_16 a b =>
    obtain ⟨hb, hK⟩ := need_iff.1 hk; rw [pbool hx, pbool hy]
    have hu : P.underlying t = some .bool := by unfold isBool at hb; split at hb <;> first | assumption | cases hb
    exact .mk hK rfl (run_bin (run_guard_ne (.inl (by simp)) (.inl (by simp)) w) (run_neq_bool w t a b hu)) mk_bool
  case h_17 a b =>
    obtain ⟨hc, hk⟩ := need_iff.1 hk
    obtain ⟨r, hr, hK⟩ := wantO_iff.1 hk
    obtain ⟨cx, rfl, hLx⟩ := pagg hx
    obtain ⟨cy, rfl, hLy⟩ := pagg hy
    obtain ⟨he, hg⟩ := cmpq_eq hc hr hLx hLy w
    exact .mk hK rfl (by simp [run_eqGuard_agg w _ t ox oy cx cy hg, run_eql_struct, he]) mk_bool
  case h_18 a b =>
    obtain ⟨hc, hk⟩ := need_iff.1 hk
    obtain ⟨r, hr, hK⟩ := wantO_iff.1 hk
    obtain ⟨cx, rfl, hLx⟩ := pagg hx
    obtain ⟨cy, rfl, hLy⟩ := pagg hy
    obtain ⟨he, hg⟩ := cmpq_eq hc hr hLx hLy w
    exact .mk hK rfl (by simp [run_eqGuard_agg w _ t ox oy cx cy hg, run_neq_struct, he]) mk_bool
  case h_19 =>
    obtain ⟨e, he, hk⟩ := wantO_iff.1 hk
    obtain ⟨r, hr, hK⟩ := wantO_iff.1 hk
    obtain ⟨b, n, c, rfl, hb⟩ := isNil_ok h hx hr
    simp only [repLv] at hy
    subst hy; subst hb
    exact .mk hK rfl (run_bin (run_guard_ne (.inl (by simp)) (.inl (by simp)) w) (Lib.run_eql_slice_nil _ t e b n c 0 0 (elq_some he))) mk_bool
  case h_20 =>
    obtain ⟨e, he, hk⟩ := wantO_iff.1 hk
    obtain ⟨r, hr, hK⟩ := wantO_iff.1 hk
    obtain ⟨b, n, c, rfl, hb⟩ := isNil_ok h hx hr
    simp only [repLv] at hy
    subst hy; subst hb
    exact .mk hK rfl (run_bin (run_guard_ne (.inl (by simp)) (.inl (by simp)) w) (run_neq_slice_nil _ t e b n c (elq_some he))) mk_bool
  case h_21 =>
    obtain ⟨⟨hi, hc⟩, hk⟩ := need_iff.1 hk
    obtain ⟨r, hr, hK⟩ := wantO_iff.1 hk
    have hv : v = .nilIface := by obtain ⟨h1, h2⟩ := pval hy; simp only [repC] at h1; exact val_of_one h1 h2
    subst hv
    obtain ⟨ms, hu⟩ : ∃ ms, P.underlying t = some (.interface ms) := by unfold isIfc at hi; split at hi <;> first | exact ⟨_, by assumption⟩ | cases hi
    rcases isNilI_ok hx hr with ⟨rfl, rfl⟩ | ⟨⟨tt, vv, rfl⟩, rfl⟩
    · exact .mk hK rfl (run_bin (run_guard_nil hc w) (run_eql_nn hu w)) mk_bool
    · exact .mk hK rfl (run_bin (run_guard_ne (.inl (by simp)) (.inl (by simp)) w) (run_eql_in hu w)) mk_bool
  case h_22 =>
    obtain ⟨⟨hi, hc⟩, hk⟩ := need_iff.1 hk
    obtain ⟨r, hr, hK⟩ := wantO_iff.1 hk
    have hv : v = .nilIface := by obtain ⟨h1, h2⟩ := pval hy; simp only [repC] at h1; exact val_of_one h1 h2
    subst hv
    obtain ⟨ms, hu⟩ : ∃ ms, P.underlying t = some (.interface ms) := by unfold isIfc at hi; split at hi <;> first | exact ⟨_, by assumption⟩ | cases hi
    rcases isNilI_ok hx hr with ⟨rfl, rfl⟩ | ⟨⟨tt, vv, rfl⟩, rfl⟩
    · exact .mk hK rfl (run_bin (run_guard_nil hc w) (run_neq_nn hu w)) mk_bool
    · exact .mk hK rfl (run_bin (run_guard_ne (.inl (by simp)) (.inl (by simp)) w) (run_neq_in hu w)) mk_bool
  case h_23 k a k' b => obtain ⟨rfl, hK⟩ := need_iff.1 hk; rw [pint hx, pint hy]; exact .mk hK rfl (run_bin (run_guard_ne (.inl (by simp)) (.inl (by simp)) w) (by simp only [binOp]; simp [Op.intBits, bitI])) mk_int
  case h_24 k a k' b => obtain ⟨rfl, hK⟩ := need_iff.1 hk; rw [pint hx, pint hy]; exact .mk hK rfl (run_bin (run_guard_ne (.inl (by simp)) (.inl (by simp)) w) (by simp only [binOp]; simp [Op.intBits, bitI])) mk_int
  case h_25 k a k' b => obtain ⟨rfl, hK⟩ := need_iff.1 hk; rw [pint hx, pint hy]; exact .mk hK rfl (run_bin (run_guard_ne (.inl (by simp)) (.inl (by simp)) w) (by simp only [binOp]; simp [Op.intBits, bitI])) mk_int
  case h_26 k a k' b => obtain ⟨hb, hK⟩ := need_iff.1 hk; rw [pint hx, pint hy]; exact .mk hK rfl (run_bin (run_guard_ne (.inl (by simp)) (.inl (by simp)) w) (by simp only [binOp]; simp [Op.shift, bitI, show ¬ (b < 0) by omega])) mk_int
  case h_27 k a k' b => obtain ⟨hb, hK⟩ := need_iff.1 hk; rw [pint hx, pint hy]; exact .mk hK rfl (run_bin (run_guard_ne (.inl (by simp)) (.inl (by simp)) w) (by simp only [binOp]; simp [Op.shift, bitI, show ¬ (b < 0) by omega])) mk_int
  case h_28 k a k' b => obtain ⟨rfl, hK⟩ := need_iff.1 hk; rw [pint hx, pint hy]; exact .mk hK rfl (run_bin (run_guard_ne (.inl (by simp)) (.inl (by simp)) w) (by simp only [binOp]; simp [Op.intBits, bitI])) mk_int
  · exact hk.elim

theorem RepD.un {op : UnOp} {x : L} {u : Value} (hx : repLv σ.mem G St (rdW w) x u) (hk : vun op x K) : Gives P σ G St w (Op.unary op u) K := by
  unfold vun at hk
  split at hk
  · rw [pbool hx]; exact .mk hk rfl (by simp [Op.unary]) mk_bool
  · rw [pint hx]; exact .mk hk rfl (by simp [Op.unary, Op.intArith]) mk_int
  · exact hk.elim

theorem RepD.extr {i : Nat} {x : L} {u : Value} (hx : repLv σ.mem G St (rdW w) x u) (hk : vextract x i K) : Gives P σ G St w (Instr.extract u i) K := by
  unfold vextract at hk
  split at hk
  · rename_i ls
    obtain ⟨l, hl, hK⟩ := wantO_iff.1 hk
    simp only [repLv] at hx
    obtain ⟨vs, rfl, hL⟩ := hx
    obtain ⟨h1, h2⟩ := repLs_get.1 hL
    have hil : i < vs.toList.length := by rw [← h1]; exact (List.getElem?_eq_some_iff.1 hl).1
    have hvi : vs[i]? = some vs.toList[i] := by simp
    exact .mk hK rfl (u := vs.toList[i]) (by simp only [Instr.extract, hvi]; rfl) (h2 i l _ hl (by simp))
  · exact hk.elim

theorem RepD.fieldv (h : RepD Γ X N ds σ a w G St own) {t f : Nat} {x : L} {u : Value} (hx : repLv σ.mem G St (rdW w) x u) (hk : vfield P t x f K) : Gives P σ G St w (Instr.field t u f) K := by
  unfold vfield at hk
  obtain ⟨⟨e, off, n⟩, hq, hk⟩ := wantO_iff.1 hk
  obtain ⟨fs, fl, m, q1, q2, q3, q4, q5, q6⟩ := flq_some hq
  simp only at q3 q4 q6 hk
  have hagg : ∃ cs, u = .agg cs := by
    unfold vpart at hk
    obtain ⟨n', hn', hk1⟩ := wantO_iff.1 hk
    obtain ⟨ag, ha, hk2⟩ := wantO_iff.1 hk1
    split at hk2
    · obtain ⟨vs, e, _⟩ := pagg hx; exact ⟨vs, e⟩
    · simp only [repLv] at hx; obtain ⟨vs, e, _⟩ := hx; exact ⟨vs, e⟩
    · exact hk2.elim
  obtain ⟨cs, rfl⟩ := hagg
  obtain ⟨e', u', hK, hw, hr, hv⟩ := h.part hx hk
  subst q3; subst q4
  exact ⟨e', u', hK, hw, by simp [Instr.field, run_underlying q1, q2, asAgg, hr], hv⟩

theorem RepD.indexv (h : RepD Γ X N ds σ a w G St own) {t : TypeId} {x i : L} {u v : Value} (hx : repLv σ.mem G St (rdW w) x u) (hi : repLv σ.mem G St (rdW w) i v) (hk : vindex P t x i K) : Gives P σ G St w (Instr.index t u v) K := by
  unfold vindex at hk
  split at hk
  · rename_i s k n
    obtain ⟨⟨h1, h2, h3⟩, hK⟩ := need_iff.1 hk
    have hu : P.underlying t = some .string := by unfold isStr at h1; split at h1 <;> first | assumption | cases h1
    rw [pstr hx, pint hi]
    have hlt : n.toNat < s.size := by omega
    have hb : s[n.toNat]! = s[n.toNat] := by simp [hlt]
    have hq : s[n.toNat]? = some s[n.toNat] := by simp [hlt]
    refine .mk hK rfl (u := .int .u8 (s[n.toNat]!).toNat) ?_ mk_int
    simp [Instr.index, run_underlying hu, asIntOf, h2, hq, hb]
  · rename_i k n _
    obtain ⟨⟨len, e⟩, he, hk⟩ := wantO_iff.1 hk
    obtain ⟨es, hes, hk⟩ := wantO_iff.1 hk
    obtain ⟨⟨h1, h2⟩, hk⟩ := need_iff.1 hk
    have hagg : ∃ cs, u = .agg cs := by
      unfold vpart at hk
      obtain ⟨n', hn', hk1⟩ := wantO_iff.1 hk
      obtain ⟨ag, ha, hk2⟩ := wantO_iff.1 hk1
      split at hk2
      · obtain ⟨vs, e, _⟩ := pagg hx; exact ⟨vs, e⟩
      · simp only [repLv] at hx; obtain ⟨vs, e, _⟩ := hx; exact ⟨vs, e⟩
      · exact hk2.elim
    obtain ⟨cs, rfl⟩ := hagg
    obtain ⟨e', u', hK, hw, hr, hv⟩ := h.part hx hk
    rw [pint hi]
    exact ⟨e', u', hK, hw, by simp [Instr.index, run_underlying (arq_some he), asIntOf, h1, h2, run_sizeOf hes, hr], hv⟩
  · exact hk.elim
end Go.Vm
