import Derived.Test.YtmebdgliiickfaaVmA
set_option linter.all false
/- The frame of the value machine, and what each operation does to it. -/
namespace Go.Vm

/-- What a slot or a cell of an own box holds. -/
inductive L where
  | dead
  | p (v : V)
  | nilS
  | e0
  | own (t j : Nat)
  | arr (t g : Nat)
  | ep (t g i j : Nat)
  | agg (ls : List L)
  | tup (ls : List L)

/-- The places of a frame's own memory: a cell of a box, a box, whether nobody may write it any more, an array. -/
inductive Key where
  | c (t j : Nat)
  | b (t : Nat)
  | f (t : Nat)
  | a (t : Nat)
  deriving DecidableEq

inductive M where
  | none
  | cell (l : L)
  | box (n : Nat)
  | frz
  | arr (g : Nat) (e : TypeId) (es : Nat) (xs : List V)

structure VS where
  get : Nat → L
  mem : Key → M

structure Eff where
  val : L
  rd : List Key
  wr : List (Key × M)

def VS.put (σ : VS) (d : Nat) (l : L) : VS := { σ with get := fun t => if t = d then l else σ.get t }
def look (k : Key) (m : M) : List (Key × M) → M
  | [] => m
  | (k', v) :: r => if k = k' then v else look k m r
def VS.upd (σ : VS) (wr : List (Key × M)) : VS := { σ with mem := fun k => look k (σ.mem k) wr }
def VS.putO (σ : VS) : Option Nat → L → VS
  | some d, l => σ.put d l
  | Option.none, _ => σ
def VS.apply (σ : VS) (d : Option Nat) (e : Eff) : VS := (σ.upd e.wr).putO d e.val

/-- A value of the program's text. -/
def scal : Value → Option L
  | .bool x => some (.p (.b x))
  | .int k n => some (.p (.i k n))
  | .string s => some (.p (.s s))
  | .slice Option.none 0 0 => some .nilS
  | .pointer Option.none => some (.p .nilPtr)
  | .nilFunc => some (.p .nilFn)
  | .nilIface => some (.p .nilI)
  | _ => Option.none

def VS.ev (Γ : Nat → Option (List V)) (σ : VS) : Operand → L
  | .tmp t => σ.get t
  | .const v => (scal v).getD .dead
  | .global g => match Γ g with | some cs => .p (.ref cs) | Option.none => .dead
  | .func f => .p (.fn f [] [])

def L.cells : L → List L
  | .p v => v.cells.map .p
  | .agg ls => ls
  | l => [l]
def allP : List L → Option (List V)
  | [] => some []
  | .p v :: r => (allP r).map (v :: ·)
  | _ => Option.none
def mkAgg (ls : List L) : L := match allP ls with | some vs => .p (.agg vs) | Option.none => .agg ls
/-- What may lie in a cell. -/
def L.isCell : L → Bool
  | .p (.agg _) => false
  | .p _ => true
  | .nilS => true
  | .e0 => true
  | .own _ _ => true
  | .arr _ _ => true
  | _ => false

/-! What is asked of the program's types. -/
def szq (P : Program) (t : TypeId) : Option Nat := (P.info? t).map (·.size)
def byq (P : Program) (t : TypeId) : Option Nat := (P.info? t).map (·.bytes)
def agq (P : Program) (t : TypeId) : Option Bool :=
  match P.underlying t with
  | some (.struct _) => some true
  | some (.array _ _) => some true
  | some _ => some false
  | Option.none => Option.none
def elq (P : Program) (t : TypeId) : Option TypeId := match P.underlying t with | some (.slice e) => some e | _ => Option.none
def flq (P : Program) (t : TypeId) (f : Nat) : Option (TypeId × Nat × Nat) :=
  match P.underlying t with
  | some (.struct fs) => match fs[f]? with
    | some x => match szq P x.type with
      | some (n + 1) => some (x.type, x.offset, n + 1)
      | _ => Option.none
    | Option.none => Option.none
  | _ => Option.none
def arq (P : Program) (t : TypeId) : Option (Nat × TypeId) := match P.underlying t with | some (.array n e) => some (n, e) | _ => Option.none
def zeq (P : Program) (t : TypeId) : Option (List L) := ((P.info? t).bind (·.zero)).bind fun v => v.cells.toList.mapM scal
/-- The places of the parts of a struct or an array: offset and size. -/
def plq (P : Program) (t : TypeId) : Option (List (Nat × Nat)) :=
  match P.underlying t with
  | some (.struct fs) => fs.toList.mapM fun f => (szq P f.type).map fun n => (f.offset, n)
  | some (.array n e) => (szq P e).map fun s => (List.range n).map fun i => (i * s, s)
  | _ => Option.none
def isBool (P : Program) (t : TypeId) : Bool := match P.underlying t with | some .bool => true | _ => false
def isStr (P : Program) (t : TypeId) : Bool := match P.underlying t with | some .string => true | _ => false

/-! Continuations, which simp does not enter. -/
def wantO {α : Type} (x : Option α) (K : α → Prop) : Prop := match x with | some a => K a | Option.none => False
@[congr] theorem wantO_congr {α : Type} {x x' : Option α} {K : α → Prop} (h : x = x') : wantO x K = wantO x' K := by rw [h]
theorem wantO_some {α : Type} (a : α) (K : α → Prop) : wantO (some a) K = K a := rfl
theorem wantO_iff {α : Type} {x : Option α} {K : α → Prop} : wantO x K ↔ ∃ a, x = some a ∧ K a := by cases x <;> simp [wantO]
/-- A condition, then the rest. -/
def need (c : Prop) (K : Prop) : Prop := c ∧ K
@[congr] theorem need_congr {c c' K : Prop} (h : c = c') : need c K = need c' K := by rw [h]
theorem need_true {K : Prop} : need True K = K := by simp [need]
theorem need_iff {c K : Prop} : need c K ↔ c ∧ K := Iff.rfl
def vcase (c A B : Prop) : Prop := (c → A) ∧ (¬ c → B)
@[congr] theorem vcase_congr {c c' A B : Prop} (h : c = c') : vcase c A B = vcase c' A B := by rw [h]
theorem vcase_true {A B : Prop} : vcase True A B = A := by simp [vcase]
theorem vcase_false {A B : Prop} : vcase False A B = B := by simp [vcase]
def vbool (l : L) (A B : Prop) : Prop := match l with | .p (.b x) => (x = true → A) ∧ (x = false → B) | _ => False
@[congr] theorem vbool_congr {l l' : L} {A B : Prop} (h : l = l') : vbool l A B = vbool l' A B := by rw [h]
theorem vbool_true {A B : Prop} : vbool (.p (.b true)) A B = A := by simp [vbool]
theorem vbool_false {A B : Prop} : vbool (.p (.b false)) A B = B := by simp [vbool]
theorem vbool_iff {x : Bool} {A B : Prop} (h1 : x = true → A) (h2 : x = false → B) : vbool (.p (.b x)) A B := ⟨h1, h2⟩

/-- The element of a list at a number. -/
def atI (xs : List V) (n : Int) (K : V → Prop) : Prop := ∃ x, 0 ≤ n ∧ xs[n.toNat]? = some x ∧ K x
@[congr] theorem atI_congr {xs xs' : List V} {n n' : Int} {K : V → Prop} (h : xs = xs') (h' : n = n') : atI xs n K = atI xs' n' K := by rw [h, h']
theorem atI_intro {xs : List V} {n : Int} {K : V → Prop} (x : V) (h0 : 0 ≤ n) (h : xs[n.toNat]? = some x) (k : K x) : atI xs n K := ⟨x, h0, h, k⟩

/-! What is handed on: an own array or box is from then on written by nobody. -/
structure Pub where
  v : V
  rd : List Key
  fz : List Nat

def curA (σ : VS) (t g : Nat) : Option ((TypeId × Nat) × List V) := match σ.mem (.a t) with | .arr g' e es xs => if g = g' then some ((e, es), xs) else Option.none | _ => Option.none
def boxN (σ : VS) (t : Nat) : Option Nat := match σ.mem (.b t) with | .box n => some n | _ => Option.none
def cellOf (σ : VS) (t j : Nat) : Option L := match σ.mem (.c t j) with | .cell l => some l | _ => Option.none
def cellsOf (σ : VS) (t : Nat) : Nat → Nat → Option (List L)
  | _, 0 => some []
  | j, n + 1 => match cellOf σ t j with | some l => (cellsOf σ t (j + 1) n).map (l :: ·) | Option.none => Option.none
def keysC (t : Nat) : Nat → Nat → List Key
  | _, 0 => []
  | j, n + 1 => .c t j :: keysC t (j + 1) n
def boxCells (σ : VS) (t : Nat) : Option (List L) := (boxN σ t).bind fun n => cellsOf σ t 0 n

def pub0 (σ : VS) : L → Option Pub
  | .p v => some ⟨v, [], []⟩
  | .nilS => some ⟨.sl [], [], []⟩
  | .e0 => some ⟨.sl [], [], []⟩
  | .arr t g => (curA σ t g).map fun (_, xs) => ⟨.sl xs, [.a t], [t]⟩
  | _ => Option.none
structure Pubs where
  vs : List V
  rd : List Key
  fz : List Nat
def pubWith (f : L → Option Pub) : List L → Option Pubs
  | [] => some ⟨[], [], []⟩
  | l :: r => match f l with
    | some q => (pubWith f r).map fun qs => ⟨q.v :: qs.vs, q.rd ++ qs.rd, q.fz ++ qs.fz⟩
    | Option.none => Option.none
def pub1 (σ : VS) : L → Option Pub
  | .agg ls => if ls.all L.isCell then (pubWith (pub0 σ) ls).map fun q => ⟨.agg q.vs, q.rd, q.fz⟩ else Option.none
  | l => pub0 σ l
def pubO (σ : VS) : L → Option Pub
  | .own t 0 => (boxN σ t).bind fun n => (cellsOf σ t 0 n).bind fun ls => if ls.all L.isCell then (pubWith (pub0 σ) ls).map fun q => ⟨.ref q.vs, .b t :: keysC t 0 n ++ q.rd, t :: q.fz⟩ else Option.none
  | l => pub1 σ l
def frzs (l : List Nat) : List (Key × M) := l.map fun t => (.f t, .frz)

/-! Boxes and arrays. -/
def cellsW (t : Nat) : Nat → List L → List (Key × M)
  | _, [] => []
  | j, l :: r => (.c t j, .cell l) :: cellsW t (j + 1) r
def isNone : M → Bool | .none => true | _ => false
def fresh (σ : VS) (d : Nat) : Bool := isNone (σ.mem (.b d)) && isNone (σ.mem (.a d))
def newBox (σ : VS) (d : Nat) (ls : List L) (K : Eff → Prop) : Prop :=
  need (fresh σ d = true ∧ ls.all L.isCell = true ∧ ls ≠ []) (K ⟨.own d 0, [.b d, .a d], (.b d, .box ls.length) :: (.f d, .none) :: cellsW d 0 ls⟩)
@[congr] theorem newBox_congr {σ σ' : VS} {d d' : Nat} {ls ls' : List L} {K : Eff → Prop} (h : σ = σ') (h1 : d = d') (h2 : ls = ls') : newBox σ d ls K = newBox σ' d' ls' K := by rw [h, h1, h2]

def lfill (pl : List (Nat × Nat)) : List L → List (Nat × List L) → Option (List L)
  | z, [] => some z
  | z, (i, ls) :: r => match pl[i]? with
    | some (off, n) => if ls.length = n ∧ off + n ≤ z.length then lfill pl (z.take off ++ ls ++ z.drop (off + n)) r else Option.none
    | Option.none => Option.none

def unAgg (ag : Bool) (ls : List L) : Option L := if ag then some (mkAgg ls) else match ls with | [l] => some l | _ => Option.none
def unAggV (ag : Bool) (cs : List V) : Option V := if ag then some (.agg cs) else match cs with | [c] => some c | _ => Option.none
def sub (cs : List V) (j n : Nat) : Option (List V) := if j + n ≤ cs.length then some ((cs.drop j).take n) else Option.none

def vload (P : Program) (σ : VS) (t : TypeId) (l : L) (K : Eff → Prop) : Prop :=
  wantO (szq P t) fun n => wantO (agq P t) fun ag => match l with
    | .own s j => wantO (boxN σ s) fun m => need (j + n ≤ m) (wantO (cellsOf σ s j n) fun ls => wantO (unAgg ag ls) fun l => K ⟨l, .b s :: keysC s j n, []⟩)
    | .ep s g i j => wantO (curA σ s g) fun (_, xs) => wantO (xs[i]?) fun x => wantO (sub x.cells j n) fun cs => wantO (unAggV ag cs) fun v => K ⟨.p v, [.a s], []⟩
    | .p (.ref cs) => wantO (sub cs 0 n) fun cs => wantO (unAggV ag cs) fun v => K ⟨.p v, [], []⟩
    | _ => False
@[congr] theorem vload_congr {P : Program} {σ σ' : VS} {t : TypeId} {l l' : L} {K : Eff → Prop} (h : σ = σ') (h1 : l = l') : vload P σ t l K = vload P σ' t l' K := by rw [h, h1]

/-- A V of cells, as wide as the one that it takes the place of. -/
def reCell (old : V) (cs : List V) : Option V := unAggV old.isAgg cs

def vstore (P : Program) (σ : VS) (t : TypeId) (l x : L) (K : Eff → Prop) : Prop :=
  wantO (szq P t) fun n => match l with
    | .own s j => wantO (boxN σ s) fun m => need (x.cells.length = n ∧ j + n ≤ m ∧ isNone (σ.mem (.f s)) = true ∧ x.cells.all L.isCell = true) (K ⟨.dead, [.b s, .f s], cellsW s j x.cells⟩)
    | .ep s g i j => wantO (curA σ s g) fun ((e, es), xs) => wantO (xs[i]?) fun y => wantO (pub1 σ x) fun q =>
        need (q.v.cells.length = n ∧ j + n ≤ y.cells.length ∧ isNone (σ.mem (.f s)) = true ∧ s ∉ q.fz) (wantO (reCell y (y.cells.take j ++ q.v.cells ++ y.cells.drop (j + n))) fun v =>
          K ⟨.dead, .a s :: .f s :: q.rd, (.a s, .arr g e es (xs.set i v)) :: frzs q.fz⟩)
    | _ => False
@[congr] theorem vstore_congr {P : Program} {σ σ' : VS} {t : TypeId} {l l' x x' : L} {K : Eff → Prop} (h : σ = σ') (h1 : l = l') (h2 : x = x') : vstore P σ t l x K = vstore P σ' t l' x' K := by rw [h, h1, h2]

/-- The elements of a slice. -/
def conts (σ : VS) : L → Option (List V × List Key)
  | .p (.sl xs) => some (xs, [])
  | .nilS => some ([], [])
  | .e0 => some ([], [])
  | .arr t g => (curA σ t g).map fun (_, xs) => (xs, [.a t])
  | _ => Option.none

/-- All bytes that may be made: no memory is outgrown below this. -/
def maxBytes : Nat := 1099511627776

def vappend (P : Program) (σ : VS) (d : Nat) (ts : TypeId) (s x : L) (K : Eff → Prop) : Prop :=
  wantO (elq P ts) fun e => wantO (szq P e) fun es => wantO (byq P e) fun by' => wantO (zeq P e) fun z => wantO (conts σ x) fun (ys, ks) => need (z.length = es ∧ 0 < es) <|
    match s with
    | .arr t g => wantO (curA σ t g) fun ((e', es'), xs) => need (e' = e ∧ es' = es ∧ (∀ y ∈ ys, y.cells.length = es) ∧ (xs.length + ys.length) * (by' + 1) ≤ maxBytes) (K ⟨.arr t (g + 1), .a t :: ks, [(.a t, .arr (g + 1) e es (xs ++ ys))]⟩)
    | .nilS => need (fresh σ d = true ∧ (∀ y ∈ ys, y.cells.length = es) ∧ ys.length * (by' + 1) ≤ maxBytes) (K ⟨.arr d 0, .b d :: .a d :: ks, [(.a d, .arr 0 e es ys), (.f d, .none)]⟩)
    | .e0 => vcase (ys = []) (K ⟨.e0, ks, []⟩) (need (fresh σ d = true ∧ (∀ y ∈ ys, y.cells.length = es) ∧ ys.length * (by' + 1) ≤ maxBytes) (K ⟨.arr d 0, .b d :: .a d :: ks, [(.a d, .arr 0 e es ys), (.f d, .none)]⟩))
    | _ => False
@[congr] theorem vappend_congr {P : Program} {σ σ' : VS} {d : Nat} {ts : TypeId} {s s' x x' : L} {K : Eff → Prop} (h : σ = σ') (h1 : s = s') (h2 : x = x') : vappend P σ d ts s x K = vappend P σ' d ts s' x' K := by rw [h, h1, h2]

/-- Numbers, bools, strings: two operands. -/
def eqvV : V → V → Option Bool
  | .i k a, .i k' b => if k = k' then some (a == b) else Option.none
  | .b a, .b b => some (a == b)
  | .s a, .s b => some (a.toList == b.toList)
  | _, _ => Option.none
def eqvs : List V → List V → Option Bool
  | [], [] => some true
  | a :: as, b :: bs => match eqvV a b, eqvs as bs with | some x, some y => some (x && y) | _, _ => Option.none
  | _, _ => Option.none
def isNil (σ : VS) : L → Option Bool
  | .nilS => some true
  | .p (.sl (_ :: _)) => some false
  | .arr t g => match curA σ t g with | some (_, _ :: _) => some false | _ => Option.none
  | _ => Option.none
def isNilI : L → Option Bool
  | .p .nilI => some true
  | .p (.ifc _ _) => some false
  | _ => Option.none
def nilRd : L → List Key | .arr t _ => [.a t] | _ => []
def isIfc (P : Program) (t : TypeId) : Bool := match P.underlying t with | some (.interface _) => true | _ => false
def Operand.isConst : Operand → Bool | .const _ => true | _ => false

/-- Types whose values are compared cell by cell. -/
def flatFs (P : Program) (g : TypeId → Option (List Nat)) : List Field → Nat → Option (List Nat)
  | [], _ => some []
  | f :: fs, o => if f.name = "_" ∨ f.offset ≠ o then Option.none else match g f.type with
    | some ks => if szq P f.type = some ks.length then (flatFs P g fs (o + ks.length)).map (ks ++ ·) else Option.none
    | Option.none => Option.none
def flat (P : Program) : Nat → TypeId → Option (List Nat)
  | 0, _ => Option.none
  | d + 1, t => match P.underlying t with
    | some .bool => some [0]
    | some (.int _) => some [1]
    | some .string => some [2]
    | some (.struct fs) => if P.stoodInHeld t then Option.none else flatFs P (flat P d) fs.toList 0
    | _ => Option.none
def V.kd : V → Nat | .b _ => 0 | .i _ _ => 1 | .s _ => 2 | _ => 9
/-- The kinds of the cells of a struct type that is compared cell by cell. -/
def cmpq (P : Program) (t : TypeId) : Option (List Nat) :=
  match P.underlying t with
  | some (.struct _) => if P.eqGuardType P.depth t then Option.none else flat P 9 t
  | _ => Option.none

def vbin (P : Program) (t : TypeId) (yc : Bool) (σ : VS) (op : BinOp) (x y : L) (K : Eff → Prop) : Prop :=
  match op, x, y with
  | .add, .p (.i k a), .p (.i k' b) => need (k = k') (K ⟨.p (.i k (k.wrap (a + b))), [], []⟩)
  | .sub, .p (.i k a), .p (.i k' b) => need (k = k') (K ⟨.p (.i k (k.wrap (a - b))), [], []⟩)
  | .mul, .p (.i k a), .p (.i k' b) => need (k = k') (K ⟨.p (.i k (k.wrap (a * b))), [], []⟩)
  | .quo, .p (.i k a), .p (.i k' b) => need (k = k' ∧ b ≠ 0) (K ⟨.p (.i k (k.wrap (a.tdiv b))), [], []⟩)
  | .rem, .p (.i k a), .p (.i k' b) => need (k = k' ∧ b ≠ 0) (K ⟨.p (.i k (a.tmod b)), [], []⟩)
  | .eql, .p (.i k a), .p (.i k' b) => need (k = k') (K ⟨.p (.b (a == b)), [], []⟩)
  | .neq, .p (.i k a), .p (.i k' b) => need (k = k') (K ⟨.p (.b (a != b)), [], []⟩)
  | .lss, .p (.i k a), .p (.i k' b) => need (k = k') (K ⟨.p (.b (decide (a < b))), [], []⟩)
  | .leq, .p (.i k a), .p (.i k' b) => need (k = k') (K ⟨.p (.b (decide (a ≤ b))), [], []⟩)
  | .gtr, .p (.i k a), .p (.i k' b) => need (k = k') (K ⟨.p (.b (decide (a > b))), [], []⟩)
  | .geq, .p (.i k a), .p (.i k' b) => need (k = k') (K ⟨.p (.b (decide (a ≥ b))), [], []⟩)
  | .add, .p (.s a), .p (.s b) => need (a.size + b.size ≤ maxBytes) (K ⟨.p (.s (a ++ b)), [], []⟩)
  | .eql, .p (.s a), .p (.s b) => K ⟨.p (.b (a.toList == b.toList)), [], []⟩
  | .neq, .p (.s a), .p (.s b) => K ⟨.p (.b !(a.toList == b.toList)), [], []⟩
  | .eql, .p (.b a), .p (.b b) => need (isBool P t = true) (K ⟨.p (.b (a == b)), [], []⟩)
  | .neq, .p (.b a), .p (.b b) => need (isBool P t = true) (K ⟨.p (.b !(a == b)), [], []⟩)
  | .eql, .p (.agg a), .p (.agg b) => need (cmpq P t = some (a.map V.kd)) (wantO (eqvs a b) fun r => K ⟨.p (.b r), [], []⟩)
  | .neq, .p (.agg a), .p (.agg b) => need (cmpq P t = some (a.map V.kd)) (wantO (eqvs a b) fun r => K ⟨.p (.b !r), [], []⟩)
  | .eql, x, .nilS => wantO (elq P t) fun _ => wantO (isNil σ x) fun r => K ⟨.p (.b r), nilRd x, []⟩
  | .neq, x, .nilS => wantO (elq P t) fun _ => wantO (isNil σ x) fun r => K ⟨.p (.b !r), nilRd x, []⟩
  | .eql, x, .p .nilI => need (isIfc P t = true ∧ yc = true) (wantO (isNilI x) fun r => K ⟨.p (.b r), [], []⟩)
  | .neq, x, .p .nilI => need (isIfc P t = true ∧ yc = true) (wantO (isNilI x) fun r => K ⟨.p (.b !r), [], []⟩)
  | _, _, _ => False
@[congr] theorem vbin_congr {P : Program} {t : TypeId} {yc : Bool} {σ σ' : VS} {op : BinOp} {x x' y y' : L} {K : Eff → Prop} (h : σ = σ') (h1 : x = x') (h2 : y = y') : vbin P t yc σ op x y K = vbin P t yc σ' op x' y' K := by rw [h, h1, h2]

/-! Results. -/
inductive RC where
  | p (v : V)
  | arr (e : TypeId) (es : Nat) (xs : List V)
  | nilS
inductive R1 where
  | c (r : RC)
  | agg (rs : List RC)
inductive R where
  | one (r : R1)
  | tup (rs : List R1)
@[reducible] def R.v (x : V) : R := .one (.c (.p x))
@[reducible] def R.v2 (x y : V) : R := .tup [.c (.p x), .c (.p y)]
@[reducible] def R.v3 (x y z : V) : R := .tup [.c (.p x), .c (.p y), .c (.p z)]

/-- The sites of the arrays that a call at 'd' hands back: the first is 'd' itself. -/
def siteN (d i : Nat) : Nat := if i = 0 then d else 1000 + d * 8 + i
def RC.toL (d i : Nat) : RC → L × Nat × List (Key × M)
  | .p v => (.p v, i, [])
  | .nilS => (.nilS, i, [])
  | .arr e es xs => (.arr (siteN d i) 0, i + 1, [(.a (siteN d i), .arr 0 e es xs), (.f (siteN d i), .none)])
def rcsToL (d : Nat) : Nat → List RC → List L × Nat × List (Key × M)
  | i, [] => ([], i, [])
  | i, r :: rs => ((r.toL d i).1 :: (rcsToL d (r.toL d i).2.1 rs).1, (rcsToL d (r.toL d i).2.1 rs).2.1, (rcsToL d (r.toL d i).2.1 rs).2.2 ++ (r.toL d i).2.2)
def R1.toL (d i : Nat) : R1 → L × Nat × List (Key × M)
  | .c r => r.toL d i
  | .agg rs => (mkAgg (rcsToL d i rs).1, (rcsToL d i rs).2.1, (rcsToL d i rs).2.2)
def r1sToL (d : Nat) : Nat → List R1 → List L × Nat × List (Key × M)
  | i, [] => ([], i, [])
  | i, r :: rs => ((r.toL d i).1 :: (r1sToL d (r.toL d i).2.1 rs).1, (r1sToL d (r.toL d i).2.1 rs).2.1, (r1sToL d (r.toL d i).2.1 rs).2.2 ++ (r.toL d i).2.2)
def R.toL (d : Nat) : R → L × List (Key × M)
  | .one r => ((r.toL d 0).1, (r.toL d 0).2.2)
  | .tup rs => (.tup (r1sToL d 0 rs).1, (r1sToL d 0 rs).2.2)
end Go.Vm
