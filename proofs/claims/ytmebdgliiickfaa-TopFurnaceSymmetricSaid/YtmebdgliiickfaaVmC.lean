import Derived.Test.YtmebdgliiickfaaVmB
set_option linter.all false
/- One operation of the value machine; regions. -/
namespace Go.Vm

def vcall (Sp : FuncId → List V → R → Prop) (f : FuncId) (args : List V) (K : R → Prop) : Prop := ∃ r, Sp f args r ∧ K r
@[congr] theorem vcall_congr {Sp : FuncId → List V → R → Prop} {f : FuncId} {args args' : List V} {K : R → Prop} (h : args = args') : vcall Sp f args K = vcall Sp f args' K := by rw [h]
theorem vcall_intro {Sp : FuncId → List V → R → Prop} {f : FuncId} {args : List V} {K : R → Prop} {r : R} (h : Sp f args r) (k : K r) : vcall Sp f args K := ⟨r, h, k⟩

def lens (σ : VS) : L → Option (Nat × List Key)
  | .p (.s s) => some (s.size, [])
  | l => (conts σ l).map fun (xs, ks) => (xs.length, ks)

def maxI (k : IntKind) : Int → List L → Option V
  | a, [] => some (.i k a)
  | a, .p (.i k' b) :: r => if k' = k then maxI k (if b > a then b else a) r else none
  | _, _ => none
def minI (k : IntKind) : Int → List L → Option V
  | a, [] => some (.i k a)
  | a, .p (.i k' b) :: r => if k' = k then minI k (if b < a then b else a) r else none
  | _, _ => none

/-- A part of a struct's or an array's value. -/
def vpart (P : Program) (t : TypeId) (l : L) (off : Nat) (K : Eff → Prop) : Prop :=
  wantO (szq P t) fun n => wantO (agq P t) fun ag => match l with
    | .p (.agg cs) => wantO (sub cs off n) fun cs => wantO (unAggV ag cs) fun v => K ⟨.p v, [], []⟩
    | .agg ls => need (off + n ≤ ls.length ∧ ((ls.drop off).take n).all L.isCell = true) (wantO (unAgg ag ((ls.drop off).take n)) fun l => K ⟨l, [], []⟩)
    | _ => False
@[congr] theorem vpart_congr {P : Program} {t : TypeId} {l l' : L} {off off' : Nat} {K : Eff → Prop} (h : l = l') (h2 : off = off') : vpart P t l off K = vpart P t l' off' K := by rw [h, h2]

def vindexAddr (P : Program) (σ : VS) (t : TypeId) (x i : L) (K : Eff → Prop) : Prop :=
  match x, i with
  | .arr s g, .p (.i _ n) => wantO (elq P t) fun e => wantO (szq P e) fun es => wantO (curA σ s g) fun ((_, es'), xs) => need (es' = es ∧ 0 ≤ n ∧ n < xs.length) (K ⟨.ep s g n.toNat 0, [.a s], []⟩)
  | .p (.sl xs), .p (.i _ n) => wantO (elq P t) fun e => wantO (szq P e) fun es => atI xs n fun x => need (x.cells.length = es) (K ⟨.p (.ref x.cells), [], []⟩)
  | .own s j, .p (.i _ n) => wantO (arq P t) fun (len, e) => wantO (szq P e) fun es => wantO (boxN σ s) fun m => need (0 ≤ n ∧ n < len ∧ j + len * es ≤ m) (K ⟨.own s (j + n.toNat * es), [.b s], []⟩)
  | .p (.ref cs), .p (.i _ n) => wantO (arq P t) fun (len, e) => wantO (szq P e) fun es => need (0 ≤ n ∧ n < len ∧ len * es ≤ cs.length) (K ⟨.p (.ref (cs.drop (n.toNat * es))), [], []⟩)
  | _, _ => False
@[congr] theorem vindexAddr_congr {P : Program} {σ σ' : VS} {t : TypeId} {x x' i i' : L} {K : Eff → Prop} (h : σ = σ') (h1 : x = x') (h2 : i = i') : vindexAddr P σ t x i K = vindexAddr P σ' t x' i' K := by rw [h, h1, h2]

def vindex (P : Program) (t : TypeId) (x i : L) (K : Eff → Prop) : Prop :=
  match x, i with
  | .p (.s s), .p (.i _ n) => need (isStr P t = true ∧ 0 ≤ n ∧ n < s.size) (K ⟨.p (.i .u8 (s[n.toNat]!).toNat), [], []⟩)
  | l, .p (.i _ n) => wantO (arq P t) fun (len, e) => wantO (szq P e) fun es => need (0 ≤ n ∧ n < len) (vpart P e l (n.toNat * es) K)
  | _, _ => False
@[congr] theorem vindex_congr {P : Program} {t : TypeId} {x x' i i' : L} {K : Eff → Prop} (h1 : x = x') (h2 : i = i') : vindex P t x i K = vindex P t x' i' K := by rw [h1, h2]

/-- The bounds of a slice expression. -/
def bnd (d : Nat) : Option L → Option Int
  | none => some d
  | some (.p (.i _ n)) => some n
  | _ => none

def vslice (P : Program) (σ : VS) (t : TypeId) (x : L) (lo hi mx : Option L) (K : Eff → Prop) : Prop :=
  match x with
  | .p (.s s) => need (isStr P t = true ∧ mx.isNone = true) (wantO (bnd 0 lo) fun a => wantO (bnd s.size hi) fun b => need (0 ≤ a ∧ a ≤ b ∧ b ≤ s.size) (K ⟨.p (.s (s.extract a.toNat b.toNat)), [], []⟩))
  | _ => wantO (elq P t) fun e => wantO (szq P e) fun es => wantO (pub0 σ x) fun q => match q.v with
    | .sl xs =>
      match mx with
      | none => wantO (bnd 0 lo) fun a => wantO (bnd xs.length hi) fun b => need (0 ≤ a ∧ a ≤ b ∧ b ≤ xs.length ∧ ∀ y ∈ xs, y.cells.length = es) (K ⟨.p (.sl ((xs.take b.toNat).drop a.toNat)), q.rd, frzs q.fz⟩)
      | some m => wantO (bnd 0 lo) fun a => wantO (bnd 0 hi) fun b => wantO (bnd 0 (some m)) fun c => need (a = 0 ∧ b = 0 ∧ c = 0 ∧ hi.isSome = true) (K ⟨.e0, q.rd, []⟩)
    | _ => False
@[congr] theorem vslice_congr {P : Program} {σ σ' : VS} {t : TypeId} {x x' : L} {lo lo' hi hi' mx mx' : Option L} {K : Eff → Prop} (h : σ = σ') (h1 : x = x') (h2 : lo = lo') (h3 : hi = hi') (h4 : mx = mx') : vslice P σ t x lo hi mx K = vslice P σ' t x' lo' hi' mx' K := by rw [h, h1, h2, h3, h4]

def vmakeSlice (P : Program) (σ : VS) (d : Nat) (t : TypeId) (n c : L) (K : Eff → Prop) : Prop :=
  wantO (elq P t) fun e => wantO (szq P e) fun es => wantO (byq P e) fun by' => wantO (zeq P e) fun z => wantO (agq P e) fun ag => wantO (pubWith (pub0 σ) z) fun q => wantO (unAggV ag q.vs) fun v => match n, c with
    | .p (.i k a), .p (.i k' b) => need (k = .i64 ∧ k' = .i64 ∧ a = b ∧ 0 ≤ a ∧ a.toNat * (by' + 1) ≤ maxBytes ∧ fresh σ d = true ∧ v.cells.length = es ∧ 0 < es) (K ⟨.arr d 0, [.b d, .a d], [(.a d, .arr 0 e es (List.replicate a.toNat v)), (.f d, .none)]⟩)
    | _, _ => False
@[congr] theorem vmakeSlice_congr {P : Program} {σ σ' : VS} {d : Nat} {t : TypeId} {n n' c c' : L} {K : Eff → Prop} (h : σ = σ') (h1 : n = n') (h2 : c = c') : vmakeSlice P σ d t n c K = vmakeSlice P σ' d t n' c' K := by rw [h, h1, h2]

def vbuildSlice (P : Program) (σ : VS) (d : Nat) (t : TypeId) (n : Nat) (is : List Nat) (ls : List L) (K : Eff → Prop) : Prop :=
  wantO (elq P t) fun e => wantO (szq P e) fun es => wantO (zeq P e) fun _ => wantO (pubWith (pub1 σ) ls) fun q =>
    need (is = List.range n ∧ ls.length = n ∧ fresh σ d = true ∧ (∀ y ∈ q.vs, y.cells.length = es) ∧ n * es ≤ 16777216 ∧ d ∉ q.fz ∧ 0 < es) (K ⟨.arr d 0, .b d :: .a d :: q.rd, [(.a d, .arr 0 e es q.vs), (.f d, .none)] ++ frzs q.fz⟩)
@[congr] theorem vbuildSlice_congr {P : Program} {σ σ' : VS} {d : Nat} {t : TypeId} {n : Nat} {is : List Nat} {ls ls' : List L} {K : Eff → Prop} (h : σ = σ') (h1 : ls = ls') : vbuildSlice P σ d t n is ls K = vbuildSlice P σ' d t n is ls' K := by rw [h, h1]

/-- A call of a function: its arguments are handed on. -/
def vcallF (Sp : FuncId → List V → R → Prop) (σ : VS) (d : Option Nat) (f : L) (args : List L) (K : Eff → Prop) : Prop :=
  match f with
  | .p (.fn g first caps) => wantO (pubWith (pub1 σ) args) fun q => vcall Sp g (first ++ q.vs ++ caps) fun r => match d with
    | some d => need (((r.toL d).2.all fun w => match w.1 with | .a t => fresh σ t && !(q.fz.contains t) | _ => true) = true) (K ⟨(r.toL d).1, ((r.toL d).2.flatMap fun w => match w.1 with | .a t => [.b t, .a t] | _ => []) ++ q.rd, (r.toL d).2 ++ frzs q.fz⟩)
    | none => need ((r.toL 0).2 = []) (K ⟨.dead, q.rd, frzs q.fz⟩)
  | _ => False
@[congr] theorem vcallF_congr {Sp : FuncId → List V → R → Prop} {σ σ' : VS} {d : Option Nat} {f f' : L} {args args' : List L} {K : Eff → Prop} (h : σ = σ') (h1 : f = f') (h2 : args = args') : vcallF Sp σ d f args K = vcallF Sp σ' d f' args' K := by rw [h, h1, h2]

def vmakeFunc (σ : VS) (f : FuncId) (first caps : List L) (K : Eff → Prop) : Prop :=
  wantO (pubWith (pub1 σ) first) fun p => wantO (pubWith (pubO σ) caps) fun q => K ⟨.p (.fn f p.vs q.vs), p.rd ++ q.rd, frzs p.fz ++ frzs q.fz⟩
@[congr] theorem vmakeFunc_congr {σ σ' : VS} {f : FuncId} {first first' caps caps' : List L} {K : Eff → Prop} (h : σ = σ') (h1 : first = first') (h2 : caps = caps') : vmakeFunc σ f first caps K = vmakeFunc σ' f first' caps' K := by rw [h, h1, h2]

def vun (op : UnOp) (x : L) (K : Eff → Prop) : Prop :=
  match op, x with
  | .not, .p (.b x) => K ⟨.p (.b !x), [], []⟩
  | .neg, .p (.i k n) => K ⟨.p (.i k (k.wrap (0 - n))), [], []⟩
  | _, _ => False
@[congr] theorem vun_congr {op : UnOp} {x x' : L} {K : Eff → Prop} (h : x = x') : vun op x K = vun op x' K := by rw [h]

def vextract (x : L) (i : Nat) (K : Eff → Prop) : Prop := match x with | .tup ls => wantO (ls[i]?) fun l => K ⟨l, [], []⟩ | _ => False
@[congr] theorem vextract_congr {i : Nat} {x x' : L} {K : Eff → Prop} (h : x = x') : vextract x i K = vextract x' i K := by rw [h]

def vfieldAddr (P : Program) (σ : VS) (t : TypeId) (x : L) (f : Nat) (K : Eff → Prop) : Prop :=
  wantO (flq P t f) fun (_, off, n) => match x with
    | .own s j => wantO (boxN σ s) fun m => need (j + off + n ≤ m) (K ⟨.own s (j + off), [.b s], []⟩)
    | .ep s g i j => wantO (curA σ s g) fun _ => K ⟨.ep s g i (j + off), [.a s], []⟩
    | .p (.ref cs) => K ⟨.p (.ref (cs.drop off)), [], []⟩
    | _ => False
@[congr] theorem vfieldAddr_congr {P : Program} {σ σ' : VS} {t : TypeId} {x x' : L} {f : Nat} {K : Eff → Prop} (h : σ = σ') (h1 : x = x') : vfieldAddr P σ t x f K = vfieldAddr P σ' t x' f K := by rw [h, h1]

def vfield (P : Program) (t : TypeId) (x : L) (f : Nat) (K : Eff → Prop) : Prop := wantO (flq P t f) fun (e, off, _) => vpart P e x off K
@[congr] theorem vfield_congr {P : Program} {t : TypeId} {x x' : L} {f : Nat} {K : Eff → Prop} (h1 : x = x') : vfield P t x f K = vfield P t x' f K := by rw [h1]

def vlen (σ : VS) (P : Program) (t : TypeId) (x : L) (K : Eff → Prop) : Prop :=
  match arq P t with
  | some (n, _) => K ⟨.p (.n n), [], []⟩
  | none => need (isStr P t = true ∧ (match x with | .p (.s _) => True | _ => False) ∨ (elq P t).isSome = true ∧ (match x with | .p (.s _) => False | _ => True)) (wantO (lens σ x) fun (n, ks) => K ⟨.p (.n n), ks, []⟩)
@[congr] theorem vlen_congr {P : Program} {σ σ' : VS} {t : TypeId} {x x' : L} {K : Eff → Prop} (h : σ = σ') (h1 : x = x') : vlen σ P t x K = vlen σ' P t x' K := by rw [h, h1]

def vminmax (mx : Bool) (ls : List L) (K : Eff → Prop) : Prop :=
  match ls with
  | .p (.i k a) :: r => wantO (if mx then maxI k a r else minI k a r) fun v => K ⟨.p v, [], []⟩
  | _ => False
@[congr] theorem vminmax_congr {mx : Bool} {ls ls' : List L} {K : Eff → Prop} (h : ls = ls') : vminmax mx ls K = vminmax mx ls' K := by rw [h]

def vconv (P : Program) (src dst : TypeId) (x : L) (K : Eff → Prop) : Prop :=
  match P.underlying src, P.underlying dst, x with
  | some (.int _), some (.int k), .p (.i _ n) => K ⟨.p (.i k (k.wrap n)), [], []⟩
  | _, _, _ => False
@[congr] theorem vconv_congr {P : Program} {src dst : TypeId} {x x' : L} {K : Eff → Prop} (h : x = x') : vconv P src dst x K = vconv P src dst x' K := by rw [h]

/-- A call of a builtin. -/
def vbuiltin (P : Program) (Γ : Nat → Option (List V)) (σ : VS) (dst : Option Nat) (b : Builtin) (args : List Operand) (ats : List TypeId) (K : Eff → Prop) : Prop :=
  match b, args, ats with
  | .len, [x], [t] => vlen σ P t (σ.ev Γ x) K
  | .max, args, _ => vminmax true (args.map (σ.ev Γ)) K
  | .min, args, _ => vminmax false (args.map (σ.ev Γ)) K
  | .append, [s, x], [ts, tx] => wantO dst fun d => need (ts = tx) <| vappend P σ d ts (σ.ev Γ s) (σ.ev Γ x) K
  | _, _, _ => False

/-- One operation: all that it may come to, told to 'K'. -/
def vop (P : Program) (Γ : Nat → Option (List V)) (Sp : FuncId → List V → R → Prop) (σ : VS) (dst : Option Nat) (op : Op) (K : Eff → Prop) : Prop :=
  match op with
  | .move x => K ⟨σ.ev Γ x, [], []⟩
  | .assign x => K ⟨σ.ev Γ x, [], []⟩
  | .pick c a b => vbool (σ.ev Γ c) (K ⟨σ.ev Γ a, [], []⟩) (K ⟨σ.ev Γ b, [], []⟩)
  | .alloc t => wantO dst fun d => wantO (zeq P t) fun ls => newBox σ d ls K
  | .box _ x => wantO dst fun d => newBox σ d (σ.ev Γ x).cells K
  | .build t ps => wantO (zeq P t) fun z => wantO (plq P t) fun pl => wantO (lfill pl z (ps.toList.map fun x => (x.1, (σ.ev Γ x.2).cells))) fun ls => need ((ps.toList.all fun x => (σ.ev Γ x.2).cells.all L.isCell) = true) (K ⟨mkAgg ls, [], []⟩)
  | .buildSlice t n ps => wantO dst fun d => vbuildSlice P σ d t n (ps.toList.map (·.1)) (ps.toList.map fun x => σ.ev Γ x.2) K
  | .load t x => vload P σ t (σ.ev Γ x) K
  | .store t a x => vstore P σ t (σ.ev Γ a) (σ.ev Γ x) K
  | .binOp op t x y _ => vbin P t (Operand.isConst y) σ op (σ.ev Γ x) (σ.ev Γ y) K
  | .unOp op _ x => vun op (σ.ev Γ x) K
  | .convert s d x => vconv P s d (σ.ev Γ x) K
  | .makeFunc (.func f) first caps => vmakeFunc σ f (first.toList.map (σ.ev Γ)) (caps.toList.map (σ.ev Γ)) K
  | .makeSlice t n c => wantO dst fun d => vmakeSlice P σ d t (σ.ev Γ n) (σ.ev Γ c) K
  | .slice t x lo hi mx => vslice P σ t (σ.ev Γ x) (lo.map (σ.ev Γ)) (hi.map (σ.ev Γ)) (mx.map (σ.ev Γ)) K
  | .fieldAddr t x f => vfieldAddr P σ t (σ.ev Γ x) f K
  | .field t x f => vfield P t (σ.ev Γ x) f K
  | .indexAddr t x i => vindexAddr P σ t (σ.ev Γ x) (σ.ev Γ i) K
  | .index t x i => vindex P t (σ.ev Γ x) (σ.ev Γ i) K
  | .extract x i => vextract (σ.ev Γ x) i K
  | .call ⟨.value f, args, _⟩ => vcallF Sp σ dst (σ.ev Γ f) (args.toList.map (σ.ev Γ)) K
  | .call ⟨.builtin b, args, ats⟩ => vbuiltin P Γ σ dst b args.toList ats.toList K
  | _ => False
end Go.Vm
