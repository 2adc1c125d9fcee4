import Derived.Test.YtfmkfaohhpmpaaaGreatDoorVmBC
import Derived.Test.YtfmkfaohhpmpaaaGreatDoorVmBB
set_option linter.all false
/- The value machine as a program: one operation. -/
namespace Go.Vm
variable {Γ : Nat → Option (List V)} {P : Program} {Sp : FuncId → List V → R → Prop} {σ : VS}

def Ex (F : (Eff → Prop) → Prop) (o : Option Eff) : Prop := ∀ e, o = some e → ∀ K : Eff → Prop, K e → F K
theorem Ex.want {α : Type} {x : Option α} {f : α → (Eff → Prop) → Prop} {g : α → Option Eff} (h : ∀ a, Ex (f a) (g a)) : Ex (fun K => wantO x fun a => f a K) (x.bind g) := fun e he K hK => by
  cases x with
  | none => cases he
  | some a => exact h a e he K hK
theorem Ex.need {c : Prop} [Decidable c] {F : (Eff → Prop) → Prop} {o : Option Eff} (h : Ex F o) : Ex (fun K => need c (F K)) (if c then o else none) := fun e he K hK => by
  by_cases hc : c
  · rw [if_pos hc] at he; exact ⟨hc, h e he K hK⟩
  · rw [if_neg hc] at he; cases he
theorem Ex.ret {e : Eff} : Ex (fun K => K e) (some e) := fun e' he K hK => by cases he; exact hK
theorem Ex.none {F : (Eff → Prop) → Prop} : Ex F none := fun e he => by cases he

def newBoxE (σ : VS) (d : Nat) (ls : List L) : Option Eff :=
  match ls with
  | [] => none
  | l :: r => if fresh σ d = true ∧ (l :: r).all L.isCell = true then some ⟨.own d 0, [.b d, .a d], (.b d, .box (l :: r).length) :: (.f d, .none) :: cellsW d 0 (l :: r)⟩ else none
theorem newBoxE_ok {d : Nat} {ls : List L} : Ex (fun K => newBox σ d ls K) (newBoxE σ d ls) := fun e he K hK => by
  cases ls with
  | nil => cases he
  | cons l r =>
    simp only [newBoxE] at he
    split at he
    · rename_i h; cases he
      exact ⟨⟨h.1, h.2, by simp⟩, hK⟩
    · cases he

def vloadE (P : Program) (σ : VS) (t : TypeId) (l : L) : Option Eff :=
  (szq P t).bind fun n => (agq P t).bind fun ag => match l with
    | .own s j => (boxN σ s).bind fun m => if j + n ≤ m then ((cellsOf σ s j n).bind fun ls => (unAgg ag ls).bind fun l => some ⟨l, .b s :: keysC s j n, []⟩) else none
    | .ep s g i j => (curA σ s g).bind fun q => (q.2[i]?).bind fun x => (sub x.cells j n).bind fun cs => (unAggV ag cs).bind fun v => some ⟨.p v, [.a s], []⟩
    | .p (.ref cs) => (sub cs 0 n).bind fun cs => (unAggV ag cs).bind fun v => some ⟨.p v, [], []⟩
    | .cel s j => (boxN σ s).bind fun m => if n = 1 ∧ ag = false ∧ j < m then ((cellOf σ s j).bind fun l => some ⟨l, [.b s, .c s j], []⟩) else none
    | _ => none
theorem vloadE_ok {t : TypeId} {l : L} : Ex (fun K => vload P σ t l K) (vloadE P σ t l) := by
  refine Ex.want fun n => Ex.want fun ag => ?_
  cases l with
  | own s j => exact Ex.want fun m => Ex.need (Ex.want fun ls => Ex.want fun l => Ex.ret)
  | ep s g i j => exact Ex.want fun q => Ex.want fun x => Ex.want fun cs => Ex.want fun v => Ex.ret
  | cel s j => exact Ex.want fun m => Ex.need (Ex.want fun l => Ex.ret)
  | p v =>
    cases v with
    | ref cs => exact Ex.want fun cs => Ex.want fun v => Ex.ret
    | _ => exact Ex.none
  | _ => exact Ex.none

def vputE (σ : VS) (s j : Nat) (x : L) : Option Eff :=
  match x with
  | .arr t g => if t = rs s j then some ⟨.dead, [.b s, .f s], [(.c s j, .cell (.arr t g))]⟩
      else (curA σ t g).bind fun c => if isNone (σ.mem (.f t)) = true ∧ isNone (σ.mem (.b (rs s j))) = true then
        some ⟨.dead, [.b s, .f s, .a t, .f t, .b (rs s j), .a (rs s j)], [(.c s j, .cell (.arr (rs s j) (genOf (σ.mem (.a (rs s j)))))), (.a (rs s j), .arr (genOf (σ.mem (.a (rs s j)))) c.1.1 c.1.2 c.2), (.f (rs s j), .none), (.a t, .arr (g + 1) c.1.1 c.1.2 [])]⟩ else none
  | .p (.sl xs) => some ⟨.dead, [.b s, .f s], [(.c s j, .cell (.p (.sl xs)))]⟩
  | .nilS => some ⟨.dead, [.b s, .f s], [(.c s j, .cell .nilS)]⟩
  | .e0 => some ⟨.dead, [.b s, .f s], [(.c s j, .cell .e0)]⟩
  | _ => none
theorem vputE_ok {s j : Nat} {x : L} : Ex (fun K => vput σ s j x K) (vputE σ s j x) := by
  cases x with
  | arr t g =>
    intro e he K hK
    simp only [vputE] at he
    by_cases ht : t = rs s j
    · rw [if_pos ht] at he; cases he
      exact ⟨fun _ => hK, fun h => (h ht).elim⟩
    · rw [if_neg ht] at he
      refine ⟨fun h => (ht h).elim, fun _ => ?_⟩
      cases hc : curA σ t g with
      | none => rw [hc] at he; cases he
      | some c =>
        rw [hc] at he
        simp only [Option.bind_some] at he
        by_cases h2 : isNone (σ.mem (.f t)) = true ∧ isNone (σ.mem (.b (rs s j))) = true
        · rw [if_pos h2] at he; cases he; exact ⟨h2, hK⟩
        · rw [if_neg h2] at he; cases he
  | p v =>
    cases v with
    | sl xs => exact Ex.ret
    | _ => exact Ex.none
  | nilS => exact Ex.ret
  | e0 => exact Ex.ret
  | _ => exact Ex.none

def vstoreE (P : Program) (σ : VS) (t : TypeId) (l x : L) : Option Eff :=
  (szq P t).bind fun n => match l with
    | .own s j => (boxN σ s).bind fun m => if x.cells.length = n ∧ j + n ≤ m ∧ isNone (σ.mem (.f s)) = true ∧ x.cells.all L.isCell = true then some ⟨.dead, [.b s, .f s], cellsW s j x.cells⟩ else none
    | .ep s g i j => (curA σ s g).bind fun c => (c.2[i]?).bind fun y => (pub1 σ x).bind fun q =>
        if q.v.cells.length = n ∧ j + n ≤ y.cells.length ∧ isNone (σ.mem (.f s)) = true ∧ s ∉ q.fz then ((reCell y (y.cells.take j ++ q.v.cells ++ y.cells.drop (j + n))).bind fun v =>
          some ⟨.dead, .a s :: .f s :: q.rd, (.a s, .arr g c.1.1 c.1.2 (c.2.set i v)) :: frzs q.fz⟩) else none
    | .cel s j => (boxN σ s).bind fun m => if n = 1 ∧ j < m ∧ isNone (σ.mem (.f s)) = true then vputE σ s j x else none
    | _ => none
theorem vstoreE_ok {t : TypeId} {l x : L} : Ex (fun K => vstore P σ t l x K) (vstoreE P σ t l x) := by
  refine Ex.want fun n => ?_
  cases l with
  | own s j => exact Ex.want fun m => Ex.need Ex.ret
  | ep s g i j => exact Ex.want fun q => Ex.want fun y => Ex.want fun q => Ex.need (Ex.want fun v => Ex.ret)
  | cel s j => exact Ex.want fun m => Ex.need vputE_ok
  | _ => exact Ex.none

def vappendE (P : Program) (σ : VS) (d : Nat) (ts : TypeId) (s x : L) : Option Eff :=
  (elq P ts).bind fun e => (szq P e).bind fun es => (byq P e).bind fun by' => (zeq P e).bind fun z => (conts σ x).bind fun c => if z.length = es ∧ 0 < es then
    (match s with
    | .arr t g => (curA σ t g).bind fun q => if q.1.1 = e ∧ q.1.2 = es ∧ (∀ y ∈ c.1, y.cells.length = es) ∧ (q.2.length + c.1.length) * (by' + 1) ≤ maxBytes then some ⟨.arr t (g + 1), .a t :: c.2, [(.a t, .arr (g + 1) e es (q.2 ++ c.1))]⟩ else none
    | .nilS => if fresh σ d = true ∧ (∀ y ∈ c.1, y.cells.length = es) ∧ c.1.length * (by' + 1) ≤ maxBytes then some ⟨.arr d 0, .b d :: .a d :: c.2, [(.a d, .arr 0 e es c.1), (.f d, .none)]⟩ else none
    | .e0 => match c.1 with
      | [] => some ⟨.e0, c.2, []⟩
      | u :: us => if fresh σ d = true ∧ (∀ y ∈ (u :: us), y.cells.length = es) ∧ (u :: us).length * (by' + 1) ≤ maxBytes then some ⟨.arr d 0, .b d :: .a d :: c.2, [(.a d, .arr 0 e es (u :: us)), (.f d, .none)]⟩ else none
    | _ => none) else none
theorem vappendE_ok {d : Nat} {ts : TypeId} {s x : L} : Ex (fun K => vappend P σ d ts s x K) (vappendE P σ d ts s x) := by
  refine Ex.want fun e => Ex.want fun es => Ex.want fun by' => Ex.want fun z => Ex.want fun c => Ex.need ?_
  obtain ⟨ys, ks⟩ := c
  cases s with
  | arr t g => exact Ex.want fun q => Ex.need Ex.ret
  | nilS => exact Ex.need Ex.ret
  | e0 =>
    cases ys with
    | nil =>
      intro e he K hK
      cases he
      show vcase (([] : List V) = []) _ _
      exact ⟨fun _ => hK, fun h => (h rfl).elim⟩
    | cons u us =>
      intro e he K hK
      show vcase (u :: us = []) _ _
      exact ⟨fun h => (by cases h), fun _ => Ex.need (F := fun K => K _) Ex.ret e he K hK⟩
  | _ => exact Ex.none

def vbinE (P : Program) (t : TypeId) (yc : Bool) (σ : VS) (op : BinOp) (x y : L) : Option Eff :=
  match x, y with
  | .p (.i k a), .p (.i k' b) => if k = k' then
      (match op with
      | .add => some ⟨.p (.i k (k.wrap (a + b))), [], []⟩
      | .sub => some ⟨.p (.i k (k.wrap (a - b))), [], []⟩
      | .mul => some ⟨.p (.i k (k.wrap (a * b))), [], []⟩
      | .quo => if b ≠ 0 then some ⟨.p (.i k (k.wrap (a.tdiv b))), [], []⟩ else none
      | .rem => if b ≠ 0 then some ⟨.p (.i k (a.tmod b)), [], []⟩ else none
      | .eql => some ⟨.p (.b (a == b)), [], []⟩
      | .neq => some ⟨.p (.b (a != b)), [], []⟩
      | .lss => some ⟨.p (.b (decide (a < b))), [], []⟩
      | .leq => some ⟨.p (.b (decide (a ≤ b))), [], []⟩
      | .gtr => some ⟨.p (.b (decide (a > b))), [], []⟩
      | .geq => some ⟨.p (.b (decide (a ≥ b))), [], []⟩
      | .and => some ⟨.p (.i k (bitI .and k a b)), [], []⟩
      | .or => some ⟨.p (.i k (bitI .or k a b)), [], []⟩
      | .andNot => some ⟨.p (.i k (bitI .andNot k a b)), [], []⟩
      | .xor => some ⟨.p (.i k (bitI .xor k a b)), [], []⟩
      | .shl => if 0 ≤ b then some ⟨.p (.i k (bitI .shl k a b)), [], []⟩ else none
      | .shr => if 0 ≤ b then some ⟨.p (.i k (bitI .shr k a b)), [], []⟩ else none) else (match op with
      | .shl => if 0 ≤ b then some ⟨.p (.i k (bitI .shl k a b)), [], []⟩ else none
      | .shr => if 0 ≤ b then some ⟨.p (.i k (bitI .shr k a b)), [], []⟩ else none
      | _ => none)
  | .p (.s a), .p (.s b) => match op with
      | .add => if a.size + b.size ≤ maxBytes then some ⟨.p (.s (a ++ b)), [], []⟩ else none
      | .eql => some ⟨.p (.b (a.toList == b.toList)), [], []⟩
      | .neq => some ⟨.p (.b !(a.toList == b.toList)), [], []⟩
      | _ => none
  | .p (.b a), .p (.b b) => if isBool P t = true then (match op with
      | .eql => some ⟨.p (.b (a == b)), [], []⟩
      | .neq => some ⟨.p (.b !(a == b)), [], []⟩
      | _ => none) else none
  | .p (.agg a), .p (.agg b) => if cmpq P t = some (a.map V.kd) then ((eqvs a b).bind fun r => match op with
      | .eql => some ⟨.p (.b r), [], []⟩
      | .neq => some ⟨.p (.b !r), [], []⟩
      | _ => none) else none
  | x, .nilS => (elq P t).bind fun _ => (isNil σ x).bind fun r => match op with
      | .eql => some ⟨.p (.b r), nilRd x, []⟩
      | .neq => some ⟨.p (.b !r), nilRd x, []⟩
      | _ => none
  | x, .p .nilI => if isIfc P t = true ∧ yc = true then ((isNilI x).bind fun r => match op with
      | .eql => some ⟨.p (.b r), [], []⟩
      | .neq => some ⟨.p (.b !r), [], []⟩
      | _ => none) else none
  | _, _ => none
theorem vbinE_ok {t : TypeId} {yc : Bool} {op : BinOp} {x y : L} : Ex (fun K => vbin P t yc σ op x y K) (vbinE P t yc σ op x y) := fun e he K hK => by
  unfold vbinE at he
  split at he
  · split at he
    · rename_i h; subst h
      cases op with
      | quo =>
        simp only at he
        split at he
        · rename_i h; cases he; exact ⟨⟨rfl, h⟩, hK⟩
        · cases he
      | rem =>
        simp only at he
        split at he
        · rename_i h; cases he; exact ⟨⟨rfl, h⟩, hK⟩
        · cases he
      | shl =>
        simp only at he
        split at he
        · rename_i h; cases he; exact ⟨h, hK⟩
        · cases he
      | shr =>
        simp only at he
        split at he
        · rename_i h; cases he; exact ⟨h, hK⟩
        · cases he
      | _ => first | (cases he; exact ⟨rfl, hK⟩) | cases he
    · cases op with
      | shl =>
        simp only at he
        split at he
        · rename_i h; cases he; exact ⟨h, hK⟩
        · cases he
      | shr =>
        simp only at he
        split at he
        · rename_i h; cases he; exact ⟨h, hK⟩
        · cases he
      | _ => cases he
  · cases op with
    | add =>
      simp only at he
      split at he
      · rename_i h; cases he; exact ⟨h, hK⟩
      · cases he
    | _ => first | (cases he; exact hK) | cases he
  · split at he
    · rename_i h
      cases op <;> first | (cases he; exact ⟨h, hK⟩) | cases he
    · cases he
  · split at he
    · rename_i a b h
      cases hr : eqvs a b with
      | none => rw [hr] at he; cases he
      | some r =>
        rw [hr] at he
        cases op <;> first | (cases he; exact ⟨h, by rw [hr]; exact hK⟩) | cases he
    · cases he
  · cases h1 : elq P t with
    | none => rw [h1] at he; cases he
    | some q =>
      cases hr : isNil σ x with
      | none => rw [h1, hr] at he; cases he
      | some r =>
        rw [h1, hr] at he
        cases op with
        | eql =>
          cases he
          have : vbin P t yc σ .eql x .nilS K = wantO (elq P t) fun _ => wantO (isNil σ x) fun r => K ⟨.p (.b r), nilRd x, []⟩ := by
            cases x with
            | p v => cases v <;> rfl
            | _ => rfl
          rw [this, h1, hr]; exact hK
        | neq =>
          cases he
          have : vbin P t yc σ .neq x .nilS K = wantO (elq P t) fun _ => wantO (isNil σ x) fun r => K ⟨.p (.b !r), nilRd x, []⟩ := by
            cases x with
            | p v => cases v <;> rfl
            | _ => rfl
          rw [this, h1, hr]; exact hK
        | _ => cases he
  · split at he
    · rename_i h
      cases hr : isNilI x with
      | none => rw [hr] at he; cases he
      | some r =>
        rw [hr] at he
        cases op with
        | eql =>
          cases he
          have : vbin P t yc σ .eql x (.p .nilI) K = need (isIfc P t = true ∧ yc = true) (wantO (isNilI x) fun r => K ⟨.p (.b r), [], []⟩) := by
            cases x with
            | p v => cases v <;> rfl
            | _ => rfl
          rw [this, hr]; exact ⟨h, hK⟩
        | neq =>
          cases he
          have : vbin P t yc σ .neq x (.p .nilI) K = need (isIfc P t = true ∧ yc = true) (wantO (isNilI x) fun r => K ⟨.p (.b !r), [], []⟩) := by
            cases x with
            | p v => cases v <;> rfl
            | _ => rfl
          rw [this, hr]; exact ⟨h, hK⟩
        | _ => cases he
    · cases he
  · cases he
end Go.Vm

/- The value machine as a program: the other operations. -/
namespace Go.Vm
variable {Γ : Nat → Option (List V)} {P : Program} {Sp : FuncId → List V → R → Prop} {σ : VS}

def vpartE (P : Program) (t : TypeId) (l : L) (off : Nat) : Option Eff :=
  (szq P t).bind fun n => (agq P t).bind fun ag => match l with
    | .p (.agg cs) => (sub cs off n).bind fun cs => (unAggV ag cs).bind fun v => some ⟨.p v, [], []⟩
    | .agg ls => if off + n ≤ ls.length ∧ ((ls.drop off).take n).all L.isCell = true then ((unAgg ag ((ls.drop off).take n)).bind fun l => some ⟨l, [], []⟩) else none
    | _ => none
theorem vpartE_ok {t : TypeId} {l : L} {off : Nat} : Ex (fun K => vpart P t l off K) (vpartE P t l off) := by
  refine Ex.want fun n => Ex.want fun ag => ?_
  cases l with
  | p v =>
    cases v with
    | agg cs => exact Ex.want fun cs => Ex.want fun v => Ex.ret
    | _ => exact Ex.none
  | agg ls => exact Ex.need (Ex.want fun l => Ex.ret)
  | _ => exact Ex.none

def vindexAddrE (P : Program) (σ : VS) (t : TypeId) (x i : L) : Option Eff :=
  match x, i with
  | .arr s g, .p (.i _ n) => (elq P t).bind fun e => (szq P e).bind fun es => (curA σ s g).bind fun q => if q.1.2 = es ∧ 0 ≤ n ∧ n < q.2.length then some ⟨.ep s g n.toNat 0, [.a s], []⟩ else none
  | .p (.sl xs), .p (.i _ n) => (elq P t).bind fun e => (szq P e).bind fun es => if 0 ≤ n then ((xs[n.toNat]?).bind fun x => if x.cells.length = es then some ⟨.p (.ref x.cells), [], []⟩ else none) else none
  | .own s j, .p (.i _ n) => (arq P t).bind fun q => (szq P q.2).bind fun es => (boxN σ s).bind fun m => if 0 ≤ n ∧ n < q.1 ∧ j + q.1 * es ≤ m then some ⟨.own s (j + n.toNat * es), [.b s], []⟩ else none
  | .p (.ref cs), .p (.i _ n) => (arq P t).bind fun q => (szq P q.2).bind fun es => if 0 ≤ n ∧ n < q.1 ∧ q.1 * es ≤ cs.length then some ⟨.p (.ref (cs.drop (n.toNat * es))), [], []⟩ else none
  | .bsl s, .p (.i _ n) => (elq P t).bind fun e => (szq P e).bind fun es => (boxN σ s).bind fun m => if es = 1 ∧ 0 ≤ n ∧ n < m then some ⟨.cel s n.toNat, [.b s], []⟩ else none
  | _, _ => none
theorem vindexAddrE_ok {t : TypeId} {x i : L} : Ex (fun K => vindexAddr P σ t x i K) (vindexAddrE P σ t x i) := by
  have h1 : ∀ s g k n, Ex (fun K => vindexAddr P σ t (.arr s g) (.p (.i k n)) K) (vindexAddrE P σ t (.arr s g) (.p (.i k n))) := fun s g k n => Ex.want fun e => Ex.want fun es => Ex.want fun q => Ex.need Ex.ret
  have h2 : ∀ xs k n, Ex (fun K => vindexAddr P σ t (.p (.sl xs)) (.p (.i k n)) K) (vindexAddrE P σ t (.p (.sl xs)) (.p (.i k n))) := fun xs k n => by
    refine Ex.want fun e => Ex.want fun es => ?_
    intro e2 he2 K2 hK2
    split at he2
    · rename_i h0
      cases hx : xs[n.toNat]? with
      | none => rw [hx] at he2; cases he2
      | some x =>
        rw [hx] at he2
        exact ⟨x, h0, hx, Ex.need (F := fun K => K _) Ex.ret e2 he2 K2 hK2⟩
    · cases he2
  have h3 : ∀ s j k n, Ex (fun K => vindexAddr P σ t (.own s j) (.p (.i k n)) K) (vindexAddrE P σ t (.own s j) (.p (.i k n))) := fun s g k n => Ex.want fun e => Ex.want fun es => Ex.want fun q => Ex.need Ex.ret
  have h4 : ∀ cs k n, Ex (fun K => vindexAddr P σ t (.p (.ref cs)) (.p (.i k n)) K) (vindexAddrE P σ t (.p (.ref cs)) (.p (.i k n))) := fun cs k n => Ex.want fun e => Ex.want fun es => Ex.need Ex.ret
  have h5 : ∀ s k n, Ex (fun K => vindexAddr P σ t (.bsl s) (.p (.i k n)) K) (vindexAddrE P σ t (.bsl s) (.p (.i k n))) := fun s k n => Ex.want fun e => Ex.want fun es => Ex.want fun m => Ex.need Ex.ret
  intro e he K hK
  have he' := he
  unfold vindexAddrE at he
  split at he
  · exact h1 _ _ _ _ e he' K hK
  · exact h2 _ _ _ e he' K hK
  · exact h3 _ _ _ _ e he' K hK
  · exact h4 _ _ _ e he' K hK
  · exact h5 _ _ _ e he' K hK
  · cases he

def vindexE (P : Program) (t : TypeId) (x i : L) : Option Eff :=
  match x, i with
  | .p (.s s), .p (.i _ n) => if isStr P t = true ∧ 0 ≤ n ∧ n < s.size then some ⟨.p (.i .u8 (s[n.toNat]!).toNat), [], []⟩ else none
  | .p (.agg cs), .p (.i _ n) => (arq P t).bind fun q => (szq P q.2).bind fun es => if 0 ≤ n ∧ n < q.1 then vpartE P q.2 (.p (.agg cs)) (n.toNat * es) else none
  | .agg ls, .p (.i _ n) => (arq P t).bind fun q => (szq P q.2).bind fun es => if 0 ≤ n ∧ n < q.1 then vpartE P q.2 (.agg ls) (n.toNat * es) else none
  | _, _ => none
theorem vindexE_ok {t : TypeId} {x i : L} : Ex (fun K => vindex P t x i K) (vindexE P t x i) := by
  intro e he K hK
  unfold vindexE at he
  split at he
  · exact Ex.need (F := fun K => K _) Ex.ret e he K hK
  · rw [vindex_agg]
    exact Ex.want (f := fun q K => wantO (szq P q.2) fun es => need _ (vpart P q.2 _ _ K)) (fun e => Ex.want fun es => Ex.need vpartE_ok) e he K hK
  · rw [vindex_ags]
    exact Ex.want (f := fun q K => wantO (szq P q.2) fun es => need _ (vpart P q.2 _ _ K)) (fun e => Ex.want fun es => Ex.need vpartE_ok) e he K hK
  · cases he

def vsliceE (P : Program) (σ : VS) (t : TypeId) (x : L) (lo hi mx : Option L) : Option Eff :=
  match x with
  | .p (.s s) => if isStr P t = true ∧ mx.isNone = true then ((bnd 0 lo).bind fun a => (bnd s.size hi).bind fun b => if 0 ≤ a ∧ a ≤ b ∧ b ≤ s.size then some ⟨.p (.s (s.extract a.toNat b.toNat)), [], []⟩ else none) else none
  | x => (elq P t).bind fun e => (szq P e).bind fun es => (pub0 σ x).bind fun q => match q.v with
    | .sl xs =>
      match mx with
      | none => (bnd 0 lo).bind fun a => (bnd xs.length hi).bind fun b => if 0 ≤ a ∧ a ≤ b ∧ b ≤ xs.length ∧ ∀ y ∈ xs, y.cells.length = es then some ⟨.p (.sl ((xs.take b.toNat).drop a.toNat)), q.rd, frzs q.fz⟩ else none
      | some m => (bnd 0 lo).bind fun a => (bnd 0 hi).bind fun b => (bnd 0 (some m)).bind fun c => if a = 0 ∧ b = 0 ∧ c = 0 ∧ hi.isSome = true then some ⟨.e0, q.rd, []⟩ else none
    | _ => none
theorem vsliceE_ok {t : TypeId} {x : L} {lo hi mx : Option L} : Ex (fun K => vslice P σ t x lo hi mx K) (vsliceE P σ t x lo hi mx) := by
  have other : (∀ s, x ≠ .p (.s s)) → Ex (fun K => vslice P σ t x lo hi mx K) ((elq P t).bind fun e => (szq P e).bind fun es => (pub0 σ x).bind fun q => match q.v with
    | .sl xs =>
      match mx with
      | none => (bnd 0 lo).bind fun a => (bnd xs.length hi).bind fun b => if 0 ≤ a ∧ a ≤ b ∧ b ≤ xs.length ∧ ∀ y ∈ xs, y.cells.length = es then some ⟨.p (.sl ((xs.take b.toNat).drop a.toNat)), q.rd, frzs q.fz⟩ else none
      | some m => (bnd 0 lo).bind fun a => (bnd 0 hi).bind fun b => (bnd 0 (some m)).bind fun c => if a = 0 ∧ b = 0 ∧ c = 0 ∧ hi.isSome = true then some ⟨.e0, q.rd, []⟩ else none
    | _ => none) := fun hx => by
    have e1 : (fun K => vslice P σ t x lo hi mx K) = fun K => wantO (elq P t) fun e => wantO (szq P e) fun es => wantO (pub0 σ x) fun q => match q.v with
      | .sl xs => match mx with
        | none => wantO (bnd 0 lo) fun a => wantO (bnd xs.length hi) fun b => need (0 ≤ a ∧ a ≤ b ∧ b ≤ xs.length ∧ ∀ y ∈ xs, y.cells.length = es) (K ⟨.p (.sl ((xs.take b.toNat).drop a.toNat)), q.rd, frzs q.fz⟩)
        | some m => wantO (bnd 0 lo) fun a => wantO (bnd 0 hi) fun b => wantO (bnd 0 (some m)) fun c => need (a = 0 ∧ b = 0 ∧ c = 0 ∧ hi.isSome = true) (K ⟨.e0, q.rd, []⟩)
      | _ => False := by funext K; exact vslice_str hx
    rw [e1]
    refine Ex.want fun e => Ex.want fun es => Ex.want fun q => ?_
    obtain ⟨v, rd, fz⟩ := q
    cases v with
    | sl xs =>
      cases mx with
      | none => exact Ex.want fun a => Ex.want fun b => Ex.need Ex.ret
      | some m => exact Ex.want fun a => Ex.want fun b => Ex.want fun c => Ex.need Ex.ret
    | _ => exact Ex.none
  cases x with
  | p v =>
    cases v with
    | s s => exact Ex.need (Ex.want fun a => Ex.want fun b => Ex.need Ex.ret)
    | _ => exact other (by simp)
  | _ => exact other (by simp)

def vsliceWE (P : Program) (σ : VS) (t : TypeId) (x : L) (lo hi mx : Option L) : Option Eff :=
  match x with
  | .arr s g => (elq P t).bind fun e => (szq P e).bind fun es => (curA σ s g).bind fun c => (bnd 0 lo).bind fun a => (bnd c.2.length hi).bind fun b => if mx.isNone = true ∧ c.1.2 = es ∧ 0 ≤ a ∧ a ≤ b ∧ b ≤ c.2.length then (if isFil hi = true then none else some ⟨.win s g a.toNat b.toNat, [.a s], []⟩) else none
  | _ => none
def vslE (m : Bool) (P : Program) (σ : VS) (t : TypeId) (x : L) (lo hi mx : Option L) : Option Eff := if m = true then vsliceWE P σ t x lo hi mx else vsliceE P σ t x lo hi mx
theorem vslE_ok {m : Bool} {t : TypeId} {x : L} {lo hi mx : Option L} : Ex (fun K => vsl m P σ t x lo hi mx K) (vslE m P σ t x lo hi mx) := by
  cases m with
  | false => exact vsliceE_ok
  | true =>
    show Ex (fun K => vsliceW P σ t x lo hi mx K) (vsliceWE P σ t x lo hi mx)
    cases x with
    | arr s g =>
      refine Ex.want fun e => Ex.want fun es => Ex.want fun c => Ex.want fun a => Ex.want fun b => Ex.need ?_
      by_cases hf : isFil hi = true
      · simp only [if_pos hf]; exact Ex.none
      · simp only [if_neg hf]; exact Ex.ret
    | _ => exact Ex.none
def vcopyE (P : Program) (σ : VS) (ts : TypeId) (d x : L) : Option Eff :=
  (elq P ts).bind fun e => (szq P e).bind fun es => (winQ σ d).bind fun q => (conts σ x).bind fun c =>
    if es = 1 ∧ q.2.1.1.2 = es ∧ isNone (σ.mem (.f q.1.1)) = true ∧ (∀ y ∈ c.1, y.cells.length = es) ∧ q.2.2.1 ≤ q.2.2.2 ∧ q.2.2.2 ≤ q.2.1.2.length then
      some ⟨.p (.n ((min c.1.length (q.2.2.2 - q.2.2.1) : Nat) : Int)), .a q.1.1 :: .f q.1.1 :: c.2, [(.a q.1.1, .arr q.1.2 q.2.1.1.1 q.2.1.1.2 (q.2.1.2.take q.2.2.1 ++ c.1.take (min c.1.length (q.2.2.2 - q.2.2.1)) ++ q.2.1.2.drop (q.2.2.1 + min c.1.length (q.2.2.2 - q.2.2.1))))]⟩ else none
theorem vcopyE_ok {ts : TypeId} {d x : L} : Ex (fun K => vcopy P σ ts d x K) (vcopyE P σ ts d x) :=
  Ex.want fun e => Ex.want fun es => Ex.want fun q => Ex.want fun c => Ex.need Ex.ret
def vmakeTabE (P : Program) (σ : VS) (d : Nat) (e : TypeId) (n c : L) : Option Eff :=
  (elq P e).bind fun e2 => (szq P e2).bind fun es2 => (szq P e).bind fun es => (byq P e).bind fun by' => match n, c with
    | .p (.i k a), .p (.i k' b) => if k = .i64 ∧ k' = .i64 ∧ a = b ∧ 0 ≤ a ∧ a.toNat * (by' + 1) ≤ maxBytes ∧ fresh σ d = true ∧ es = 1 ∧ 0 < es2 ∧ d < 1024 ∧ freshR σ d 0 a.toNat = true then some ⟨.bsl d, .b d :: .a d :: tabK d 0 a.toNat, tabW d e2 es2 (List.replicate a.toNat row0)⟩ else none
    | _, _ => none
theorem vmakeTabE_ok {d : Nat} {e : TypeId} {n c : L} : Ex (fun K => vmakeTab P σ d e n c K) (vmakeTabE P σ d e n c) := by
  refine Ex.want fun e => Ex.want fun es => Ex.want fun by' => Ex.want fun z => ?_
  cases n with
  | p x =>
    cases x with
    | i k a =>
      cases c with
      | p y =>
        cases y with
        | i k' b => exact Ex.need Ex.ret
        | _ => exact Ex.none
      | _ => exact Ex.none
    | _ => exact Ex.none
  | _ => exact Ex.none
def vmakeSliceE (P : Program) (σ : VS) (d : Nat) (t : TypeId) (n c : L) : Option Eff :=
  (elq P t).bind fun e => (szq P e).bind fun es => (byq P e).bind fun by' => (zeq P e).bind fun z => if isRow z = true then vmakeTabE P σ d e n c else (agq P e).bind fun ag => (pubWith (pub0 σ) z).bind fun q => (unAggV ag q.vs).bind fun v => match n, c with
    | .p (.i k a), .p (.i k' b) => if k = .i64 ∧ k' = .i64 ∧ a = b ∧ 0 ≤ a ∧ a.toNat * (by' + 1) ≤ maxBytes ∧ fresh σ d = true ∧ v.cells.length = es ∧ 0 < es then some ⟨.arr d 0, [.b d, .a d], [(.a d, .arr 0 e es (List.replicate a.toNat v)), (.f d, .none)]⟩ else none
    | _, _ => none
theorem vmakeSliceE_ok {d : Nat} {t : TypeId} {n c : L} : Ex (fun K => vmakeSlice P σ d t n c K) (vmakeSliceE P σ d t n c) := by
  refine Ex.want fun e => Ex.want fun es => Ex.want fun by' => Ex.want fun z => ?_
  by_cases hrow : isRow z = true
  · simp only [if_pos hrow]; exact vmakeTabE_ok
  simp only [if_neg hrow]
  refine Ex.want fun ag => Ex.want fun q => Ex.want fun v => ?_
  cases n with
  | p x =>
    cases x with
    | i k a =>
      cases c with
      | p y =>
        cases y with
        | i k' b => exact Ex.need Ex.ret
        | _ => exact Ex.none
      | _ => exact Ex.none
    | _ => exact Ex.none
  | _ => exact Ex.none

def vbuildSliceE (P : Program) (σ : VS) (d : Nat) (t : TypeId) (n : Nat) (is : List Nat) (ls : List L) : Option Eff :=
  (elq P t).bind fun e => (szq P e).bind fun es => (zeq P e).bind fun _ => (pubWith (pub1 σ) ls).bind fun q =>
    if is = List.range n ∧ ls.length = n ∧ fresh σ d = true ∧ (∀ y ∈ q.vs, y.cells.length = es) ∧ n * es ≤ 16777216 ∧ d ∉ q.fz ∧ 0 < es then some ⟨.arr d 0, .b d :: .a d :: q.rd, [(.a d, .arr 0 e es q.vs), (.f d, .none)] ++ frzs q.fz⟩ else none
theorem vbuildSliceE_ok {d : Nat} {t : TypeId} {n : Nat} {is : List Nat} {ls : List L} : Ex (fun K => vbuildSlice P σ d t n is ls K) (vbuildSliceE P σ d t n is ls) :=
  Ex.want fun e => Ex.want fun es => Ex.want fun z => Ex.want fun q => Ex.need Ex.ret

def vcallE (call : FuncId → List V → Option R) (σ : VS) (d : Option Nat) (f : L) (args : List L) : Option Eff :=
  match f with
  | .p (.fn g first caps) => (pubWith (pub1 σ) args).bind fun q => (call g (first ++ q.vs ++ caps)).bind fun r => match d with
    | some d => if ((r.toL d).2.all fun w => match w.1 with | .a t => fresh σ t && !(q.fz.contains t) | _ => true) = true then some ⟨(r.toL d).1, ((r.toL d).2.flatMap fun w => match w.1 with | .a t => [.b t, .a t] | _ => []) ++ q.rd, (r.toL d).2 ++ frzs q.fz⟩ else none
    | none => match (r.toL 0).2 with | [] => some ⟨.dead, q.rd, frzs q.fz⟩ | _ => none
  | _ => none
theorem vcallE_ok {call : FuncId → List V → Option R} (hc : ∀ f args r, call f args = some r → Sp f args r) {d : Option Nat} {f : L} {args : List L} : Ex (fun K => vcallF Sp σ d f args K) (vcallE call σ d f args) := by
  intro e he K hK
  unfold vcallE at he
  split at he
  · rename_i g first caps
    refine .inl ?_
    simp only [vcallP]
    cases hq : pubWith (pub1 σ) args with
    | none => rw [hq] at he; cases he
    | some q =>
      rw [hq] at he
      simp only [Option.bind_some] at he
      cases hr : call g (first ++ q.vs ++ caps) with
      | none => rw [hr] at he; cases he
      | some r =>
        rw [hr] at he
        simp only [Option.bind_some] at he
        refine ⟨r, hc _ _ _ hr, ?_⟩
        cases d with
        | some d => exact Ex.need (F := fun K => K _) Ex.ret e he K hK
        | none =>
          simp only at he
          split at he
          · rename_i h; cases he; exact ⟨h, hK⟩
          · cases he
  · cases he

def vmakeFuncE (σ : VS) (f : FuncId) (first caps : List L) : Option Eff :=
  (pubWith (pub1 σ) first).bind fun p => (pubWith (pubO σ) caps).bind fun q => some ⟨.p (.fn f p.vs q.vs), p.rd ++ q.rd, frzs p.fz ++ frzs q.fz⟩
theorem vmakeFuncE_ok {f : FuncId} {first caps : List L} : Ex (fun K => vmakeFunc σ f first caps K) (vmakeFuncE σ f first caps) := Ex.want fun p => Ex.want fun q => Ex.ret

def vunE (op : UnOp) (x : L) : Option Eff :=
  match op, x with
  | .not, .p (.b x) => some ⟨.p (.b !x), [], []⟩
  | .neg, .p (.i k n) => some ⟨.p (.i k (k.wrap (0 - n))), [], []⟩
  | _, _ => none
theorem vunE_ok {op : UnOp} {x : L} : Ex (fun K => vun op x K) (vunE op x) := by
  intro e he K hK
  unfold vunE at he
  split at he
  · cases he; exact hK
  · cases he; exact hK
  · cases he

def vextractE (x : L) (i : Nat) : Option Eff := match x with | .tup ls => (ls[i]?).bind fun l => some ⟨l, [], []⟩ | _ => none
theorem vextractE_ok {x : L} {i : Nat} : Ex (fun K => vextract x i K) (vextractE x i) := by
  cases x with
  | tup ls => exact Ex.want fun l => Ex.ret
  | _ => exact Ex.none

def vfieldAddrE (P : Program) (σ : VS) (t : TypeId) (x : L) (f : Nat) : Option Eff :=
  (flq P t f).bind fun q => match x with
    | .own s j => (boxN σ s).bind fun m => if j + q.2.1 + q.2.2 ≤ m then some ⟨.own s (j + q.2.1), [.b s], []⟩ else none
    | .ep s g i j => (curA σ s g).bind fun _ => some ⟨.ep s g i (j + q.2.1), [.a s], []⟩
    | .p (.ref cs) => some ⟨.p (.ref (cs.drop q.2.1)), [], []⟩
    | _ => none
theorem vfieldAddrE_ok {t : TypeId} {x : L} {f : Nat} : Ex (fun K => vfieldAddr P σ t x f K) (vfieldAddrE P σ t x f) := by
  refine Ex.want fun q => ?_
  cases x with
  | own s j => exact Ex.want fun m => Ex.need Ex.ret
  | ep s g i j => exact Ex.want fun m => Ex.ret
  | p v =>
    cases v with
    | ref cs => exact Ex.ret
    | _ => exact Ex.none
  | _ => exact Ex.none

def vfieldE (P : Program) (t : TypeId) (x : L) (f : Nat) : Option Eff := (flq P t f).bind fun q => vpartE P q.1 x q.2.1
theorem vfieldE_ok {t : TypeId} {x : L} {f : Nat} : Ex (fun K => vfield P t x f K) (vfieldE P t x f) := Ex.want fun q => vpartE_ok

def vlenE (σ : VS) (P : Program) (t : TypeId) (x : L) : Option Eff :=
  match arq P t with
  | some q => some ⟨.p (.n q.1), [], []⟩
  | none => match x with
    | .p (.s s) => if isStr P t = true then some ⟨.p (.n s.size), [], []⟩ else none
    | x => if (elq P t).isSome = true then ((lens σ x).bind fun q => some ⟨.p (.n q.1), q.2, []⟩) else none
theorem vlenE_ok {t : TypeId} {x : L} : Ex (fun K => vlen σ P t x K) (vlenE σ P t x) := by
  intro e he K hK
  unfold vlenE at he
  unfold vlen
  cases ha : arq P t with
  | some q => rw [ha] at he; cases he; exact hK
  | none =>
    rw [ha] at he
    simp only at he ⊢
    split at he
    · rename_i s
      split at he
      · rename_i h; cases he
        exact ⟨.inl ⟨h, trivial⟩, hK⟩
      · cases he
    · rename_i hx
      split at he
      · rename_i h
        refine ⟨.inr ⟨h, ?_⟩, Ex.want (f := fun q K => K ⟨.p (.n q.1), q.2, []⟩) (fun q => Ex.ret) e he K hK⟩
        clear he
        cases x with
        | p v =>
          cases v with
          | s s => exact (hx s rfl).elim
          | _ => exact trivial
        | _ => trivial
      · cases he

def vminmaxE (mx : Bool) (ls : List L) : Option Eff :=
  match ls with
  | .p (.i k a) :: r => (if mx then maxI k a r else minI k a r).bind fun v => some ⟨.p v, [], []⟩
  | _ => none
theorem vminmaxE_ok {mx : Bool} {ls : List L} : Ex (fun K => vminmax mx ls K) (vminmaxE mx ls) := by
  intro e he K hK
  unfold vminmaxE at he
  split at he
  · exact Ex.want (f := fun v K => K ⟨.p v, [], []⟩) (fun q => Ex.ret) e he K hK
  · cases he

def vconvE (P : Program) (src dst : TypeId) (x : L) : Option Eff :=
  match P.underlying src, P.underlying dst, x with
  | some (.int _), some (.int k), .p (.i _ n) => some ⟨.p (.i k (k.wrap n)), [], []⟩
  | some .string, some (.slice e), .p (.s x) => if isU8 P e = true then some ⟨.p (.sl (bytesV x)), [], []⟩ else none
  | _, _, _ => none
theorem vconvE_ok {s d : TypeId} {x : L} : Ex (fun K => vconv P s d x K) (vconvE P s d x) := by
  intro e he K hK
  unfold vconvE at he
  split at he
  · rename_i k1 k2 k3 n h1 h2
    cases he
    rw [vconv_ii h1 h2]; exact hK
  · rename_i h1 h2
    split at he
    · rename_i h3
      cases he
      unfold vconv; rw [h1, h2]; exact need_iff.2 ⟨h3, hK⟩
    · cases he
  · cases he

def vbuiltinE (P : Program) (Γ : Nat → Option (List V)) (σ : VS) (dst : Option Nat) (b : Builtin) (args : List Operand) (ats : List TypeId) : Option Eff :=
  match b, args, ats with
  | .len, [x], [t] => vlenE σ P t (σ.ev Γ x)
  | .max, args, _ => vminmaxE true (args.map (σ.ev Γ))
  | .min, args, _ => vminmaxE false (args.map (σ.ev Γ))
  | .append, [s, x], [ts, tx] => dst.bind fun d => if ts = tx then vappendE P σ d ts (σ.ev Γ s) (σ.ev Γ x) else none
  | .copy, [d, x], [ts, tx] => if ts = tx then vcopyE P σ ts (σ.ev Γ d) (σ.ev Γ x) else none
  | _, _, _ => none
theorem vbuiltinE_ok {dst : Option Nat} {b : Builtin} {args : List Operand} {ats : List TypeId} : Ex (fun K => vbuiltin P Γ σ dst b args ats K) (vbuiltinE P Γ σ dst b args ats) := by
  intro e he K hK
  unfold vbuiltinE at he
  split at he
  · exact vlenE_ok e he K hK
  · exact vminmaxE_ok e he K hK
  · exact vminmaxE_ok e he K hK
  · rename_i s x ts tx
    by_cases h : ts = tx
    · subst h
      simp only [if_true] at he
      show wantO dst fun d => if ts = ts then vappend P σ d ts (σ.ev Γ s) (σ.ev Γ x) K else _
      simp only [if_true]
      exact Ex.want (f := fun d K => vappend P σ d ts (σ.ev Γ s) (σ.ev Γ x) K) (fun d => vappendE_ok) e he K hK
    · simp only [if_neg h] at he
      cases dst <;> cases he
  · exact Ex.need (F := fun K => vcopy P σ _ _ _ K) vcopyE_ok e he K hK
  · cases he

/-- One operation. -/
def vopE (P : Program) (Γ : Nat → Option (List V)) (call : FuncId → List V → Option R) (σ : VS) (dst : Option Nat) (op : Op) : Option Eff :=
  match op with
  | .move x => some ⟨σ.ev Γ x, [], []⟩
  | .assign x => some ⟨σ.ev Γ x, [], []⟩
  | .pick c a b => match σ.ev Γ c with
    | .p (.b true) => some ⟨σ.ev Γ a, [], []⟩
    | .p (.b false) => some ⟨σ.ev Γ b, [], []⟩
    | _ => none
  | .alloc t => dst.bind fun d => (zeq P t).bind fun ls => newBoxE σ d ls
  | .box _ x => dst.bind fun d => newBoxE σ d (σ.ev Γ x).cells
  | .build t ps => (zeq P t).bind fun z => (plq P t).bind fun pl => (lfill pl z (ps.toList.map fun x => (x.1, (σ.ev Γ x.2).cells))).bind fun ls => if (ps.toList.all fun x => (σ.ev Γ x.2).cells.all L.isCell) = true then some ⟨mkAgg ls, [], []⟩ else none
  | .buildSlice t n ps => dst.bind fun d => vbuildSliceE P σ d t n (ps.toList.map (·.1)) (ps.toList.map fun x => σ.ev Γ x.2)
  | .load t x => vloadE P σ t (σ.ev Γ x)
  | .store t a x => vstoreE P σ t (σ.ev Γ a) (σ.ev Γ x)
  | .binOp op t x y _ => vbinE P t (Operand.isConst y) σ op (σ.ev Γ x) (σ.ev Γ y)
  | .unOp op _ x => vunE op (σ.ev Γ x)
  | .convert s d x => vconvE P s d (σ.ev Γ x)
  | .makeFunc (.func f) first caps => vmakeFuncE σ f (first.toList.map (σ.ev Γ)) (caps.toList.map (σ.ev Γ))
  | .makeSlice t n c => dst.bind fun d => vmakeSliceE P σ d t (σ.ev Γ n) (σ.ev Γ c)
  | .slice t x lo hi mx => vslE (winM Γ) P σ t (σ.ev Γ x) (lo.map (σ.ev Γ)) (hi.map (σ.ev Γ)) (mx.map (σ.ev Γ))
  | .fieldAddr t x f => vfieldAddrE P σ t (σ.ev Γ x) f
  | .field t x f => vfieldE P t (σ.ev Γ x) f
  | .indexAddr t x i => vindexAddrE P σ t (σ.ev Γ x) (σ.ev Γ i)
  | .index t x i => vindexE P t (σ.ev Γ x) (σ.ev Γ i)
  | .extract x i => vextractE (σ.ev Γ x) i
  | .call c => match c with
    | ⟨.value f, args, _⟩ => vcallE call σ dst (σ.ev Γ f) (args.toList.map (σ.ev Γ))
    | ⟨.builtin b, args, ats⟩ => vbuiltinE P Γ σ dst b args.toList ats.toList
    | _ => none
  | _ => none
theorem vopE_ok {call : FuncId → List V → Option R} (hc : ∀ f args r, call f args = some r → Sp f args r) {dst : Option Nat} {op : Op} : Ex (fun K => vop P Γ Sp σ dst op K) (vopE P Γ call σ dst op) := by
  intro e he K hK
  unfold vopE at he
  split at he
  · cases he; exact hK
  · cases he; exact hK
  · rename_i c a b
    show vbool (σ.ev Γ c) _ _
    split at he
    · rename_i h; cases he; rw [h]; exact ⟨fun _ => hK, fun h => (by cases h)⟩
    · rename_i h; cases he; rw [h]; exact ⟨fun h => (by cases h), fun _ => hK⟩
    · cases he
  · exact Ex.want (f := fun d K => wantO (zeq P _) fun ls => newBox σ d ls K) (fun d => Ex.want fun ls => newBoxE_ok) e he K hK
  · exact Ex.want (f := fun d K => newBox σ d _ K) (fun d => newBoxE_ok) e he K hK
  · rename_i t ps
    exact Ex.want (f := fun z K => wantO (plq P t) fun pl => wantO (lfill pl z (ps.toList.map fun x => (x.1, (σ.ev Γ x.2).cells))) fun ls => need _ (K _)) (fun z => Ex.want fun pl => Ex.want fun ls => Ex.need Ex.ret) e he K hK
  · exact Ex.want (f := fun d K => vbuildSlice P σ d _ _ _ _ K) (fun d => vbuildSliceE_ok) e he K hK
  · exact vloadE_ok e he K hK
  · exact vstoreE_ok e he K hK
  · exact vbinE_ok e he K hK
  · exact vunE_ok e he K hK
  · exact vconvE_ok e he K hK
  · exact vmakeFuncE_ok e he K hK
  · exact Ex.want (f := fun d K => vmakeSlice P σ d _ _ _ K) (fun d => vmakeSliceE_ok) e he K hK
  · exact vslE_ok e he K hK
  · exact vfieldAddrE_ok e he K hK
  · exact vfieldE_ok e he K hK
  · exact vindexAddrE_ok e he K hK
  · exact vindexE_ok e he K hK
  · exact vextractE_ok e he K hK
  · split at he
    · exact vcallE_ok hc e he K hK
    · exact vbuiltinE_ok e he K hK
    · cases he
  · cases he
end Go.Vm

/- The value machine as a program: its states. -/
namespace Go.Vm
variable {Γ : Nat → Option (List V)} {P : Program} {Sp : FuncId → List V → R → Prop} {σ : VS}

inductive Tr' (α : Type) where
  | nil
  | node (v : Option α) (l r : Tr' α)
namespace Tr'
variable {α β : Type}
def get : Tr' α → Nat → Option α
  | nil, _ => none
  | node v l r, t => if t = 0 then v else if t % 2 = 1 then l.get (t / 2) else r.get (t / 2 - 1)
def ins : Nat → Tr' α → Nat → α → Tr' α
  | 0, m, _, _ => m
  | n + 1, nil, t, a => if t = 0 then node (some a) nil nil else if t % 2 = 1 then node none (ins n nil (t / 2) a) nil else node none nil (ins n nil (t / 2 - 1) a)
  | n + 1, node v l r, t, a => if t = 0 then node (some a) l r else if t % 2 = 1 then node v (ins n l (t / 2) a) r else node v l (ins n r (t / 2 - 1) a)
theorem get_nil {t : Nat} : (nil : Tr' α).get t = none := rfl
theorem get_ins {a : α} : ∀ {n : Nat} {m : Tr' α} {t t' : Nat}, t + 2 ≤ 2 ^ n → (ins n m t a).get t' = if t' = t then some a else m.get t'
  | 0, m, t, t', h => by simp at h
  | n + 1, nil, t, t', h => by
    simp only [ins]
    rw [Nat.pow_succ] at h
    by_cases h0 : t = 0
    · subst h0
      rw [if_pos rfl]
      by_cases h1 : t' = 0
      · simp [get, h1]
      · simp only [get, h1, if_false]; split <;> rfl
    · rw [if_neg h0]
      by_cases h1 : t % 2 = 1
      · rw [if_pos h1]
        by_cases g0 : t' = 0
        · subst g0; rw [if_neg (by omega)]; simp [get]
        · by_cases g1 : t' % 2 = 1
          · simp only [get, g0, g1, if_true, if_false]
            rw [get_ins (by omega)]
            simp only [get]
            by_cases e : t' = t
            · simp [e]
            · rw [if_neg e, if_neg (by omega)]
          · simp only [get, g0, g1, if_false]; rw [if_neg (by omega)]
      · rw [if_neg h1]
        by_cases g0 : t' = 0
        · subst g0; rw [if_neg (by omega)]; simp [get]
        · by_cases g1 : t' % 2 = 1
          · simp only [get, g0, g1, if_true, if_false]; rw [if_neg (by omega)]
          · simp only [get, g0, g1, if_false]
            rw [get_ins (by omega)]
            simp only [get]
            by_cases e : t' = t
            · simp [e]
            · rw [if_neg e, if_neg (by omega)]
  | n + 1, node v l r, t, t', h => by
    simp only [ins]
    rw [Nat.pow_succ] at h
    by_cases h0 : t = 0
    · subst h0
      rw [if_pos rfl]
      by_cases h1 : t' = 0
      · simp [get, h1]
      · simp only [get, h1, if_false]
    · rw [if_neg h0]
      by_cases h1 : t % 2 = 1
      · rw [if_pos h1]
        by_cases g0 : t' = 0
        · subst g0; rw [if_neg (by omega)]; simp [get]
        · by_cases g1 : t' % 2 = 1
          · simp only [get, g0, g1, if_true, if_false]
            rw [get_ins (by omega)]
            by_cases e : t' = t
            · simp [e]
            · rw [if_neg e, if_neg (by omega)]
          · simp only [get, g0, g1, if_false]; rw [if_neg (by omega)]
      · rw [if_neg h1]
        by_cases g0 : t' = 0
        · subst g0; rw [if_neg (by omega)]; simp [get]
        · by_cases g1 : t' % 2 = 1
          · simp only [get, g0, g1, if_true, if_false]; rw [if_neg (by omega)]
          · simp only [get, g0, g1, if_false]
            rw [get_ins (by omega)]
            by_cases e : t' = t
            · simp [e]
            · rw [if_neg e, if_neg (by omega)]
/-- What is kept, changed by 'f'. -/
def keep (f : α → α) : Tr' Unit → Tr' α → Tr' α
  | node u a b, node v l r => node (if u.isSome then v.map f else none) (keep f a l) (keep f b r)
  | _, _ => nil
theorem get_keep {f : α → α} : ∀ {k : Tr' Unit} {m : Tr' α} {t : Nat}, (keep f k m).get t = match k.get t with | some _ => (m.get t).map f | none => none
  | nil, m, t => by simp [keep, get]
  | node u a b, nil, t => by simp only [keep, get_nil, Option.map_none]; split <;> rfl
  | node u a b, node v l r, t => by
    simp only [keep, get]
    by_cases h0 : t = 0
    · simp only [h0, if_true]; cases u <;> rfl
    · simp only [h0, if_false]
      by_cases h1 : t % 2 = 1
      · simp only [h1, if_true]; exact get_keep
      · simp only [h1, if_false]; exact get_keep
def map (f : α → β) : Tr' α → Tr' β
  | nil => nil
  | node v l r => node (v.map f) (map f l) (map f r)
theorem get_map {f : α → β} : ∀ {m : Tr' α} {t : Nat}, (map f m).get t = (m.get t).map f
  | nil, _ => rfl
  | node v l r, t => by
    simp only [map, get]
    by_cases h0 : t = 0
    · simp [h0]
    · rw [if_neg h0, if_neg h0]
      by_cases h1 : t % 2 = 1
      · rw [if_pos h1, if_pos h1]; exact get_map
      · rw [if_neg h1, if_neg h1]; exact get_map
def all (p : α → Bool) : Tr' α → Bool
  | nil => true
  | node v l r => (match v with | some a => p a | none => true) && all p l && all p r
theorem all_get {p : α → Bool} : ∀ {m : Tr' α}, all p m = true → ∀ t a, m.get t = some a → p a = true
  | nil, _, t, a, h => by simp [get] at h
  | node v l r, hp, t, a, h => by
    simp only [all, Bool.and_eq_true] at hp
    simp only [get] at h
    by_cases h0 : t = 0
    · rw [if_pos h0] at h; subst h; exact hp.1.1
    · rw [if_neg h0] at h
      by_cases h1 : t % 2 = 1
      · rw [if_pos h1] at h; exact all_get hp.1.2 _ _ h
      · rw [if_neg h1] at h; exact all_get hp.2 _ _ h
def toL : Tr' α → List α
  | nil => []
  | node v l r => (match v with | some a => [a] | none => []) ++ toL l ++ toL r
end Tr'

structure Ob where
  b : M
  a : M
  f : M
  c : Tr' L
structure XS where
  gs : Tr' L
  mem : Tr' Ob
  y : M
  vv : Tr' L
def noOb : Ob := ⟨.none, .none, .none, .nil⟩
def XS.ob (X : XS) (t : Nat) : Ob := (X.mem.get t).getD noOb
def mc (x : Option L) : M := match x with | some l => .cell l | none => .none
def XS.vs (X : XS) : VS where
  get := fun t => (X.gs.get t).getD .dead
  mem := fun k => match k with
    | .b t => (X.ob t).b
    | .a t => (X.ob t).a
    | .f t => (X.ob t).f
    | .c t j => mc ((X.ob t).c.get j)
    | .y => X.y
    | .v t => mc (X.vv.get t)
def small (t : Nat) : Bool := decide (t + 2 ≤ 16777216)
theorem small_pow {t : Nat} (h : small t = true) : t + 2 ≤ 2 ^ 24 := by simpa [small] using h
def XS.setOb (X : XS) (t : Nat) (o : Ob) : XS := { X with mem := X.mem.ins 24 t o }
theorem ob_set {X : XS} {t t' : Nat} {o : Ob} (h : small t = true) : (X.setOb t o).ob t' = if t' = t then o else X.ob t' := by
  unfold XS.ob XS.setOb
  simp only
  rw [Tr'.get_ins (small_pow h)]
  split <;> rfl
def XS.upd1 (X : XS) (k : Key) (m : M) : Option XS :=
  match k, m with
  | .b t, m => if small t = true then some (X.setOb t { X.ob t with b := m }) else none
  | .a t, m => if small t = true then some (X.setOb t { X.ob t with a := m }) else none
  | .f t, m => if small t = true then some (X.setOb t { X.ob t with f := m }) else none
  | .c t j, .cell l => if small t = true ∧ small j = true then some (X.setOb t { X.ob t with c := (X.ob t).c.ins 24 j l }) else none
  | .y, m => some { X with y := m }
  | _, _ => none
theorem upd1uvs {X X' : XS} {k : Key} {m : M} (h : X.upd1 k m = some X') : X'.vs = X.vs.upd [(k, m)] := by
  have fin : X'.gs = X.gs → (∀ k', X'.vs.mem k' = if k' = k then m else X.vs.mem k') → X'.vs = X.vs.upd [(k, m)] := fun h1 h2 => by
    refine VS.same (fun t => ?_) (fun k' => ?_)
    · show (X'.gs.get t).getD .dead = (X.gs.get t).getD .dead
      rw [h1]
    · rw [h2]; rfl
  cases k with
  | b t =>
    simp only [XS.upd1] at h
    split at h
    · rename_i hs; cases h
      refine fin rfl fun k' => ?_
      have ho := fun t' => ob_set (X := X) (t' := t') (o := { X.ob t with b := m }) hs
      cases k' <;> simp only [XS.vs, ho, Key.b.injEq, reduceCtorEq, if_false] <;> first | rfl | (split <;> simp_all) | skip
    · cases h
  | a t =>
    simp only [XS.upd1] at h
    split at h
    · rename_i hs; cases h
      refine fin rfl fun k' => ?_
      have ho := fun t' => ob_set (X := X) (t' := t') (o := { X.ob t with a := m }) hs
      cases k' <;> simp only [XS.vs, ho, Key.a.injEq, reduceCtorEq, if_false] <;> first | rfl | (split <;> simp_all) | skip
    · cases h
  | f t =>
    simp only [XS.upd1] at h
    split at h
    · rename_i hs; cases h
      refine fin rfl fun k' => ?_
      have ho := fun t' => ob_set (X := X) (t' := t') (o := { X.ob t with f := m }) hs
      cases k' <;> simp only [XS.vs, ho, Key.f.injEq, reduceCtorEq, if_false] <;> first | rfl | (split <;> simp_all) | skip
    · cases h
  | c t j =>
    cases m with
    | cell l =>
      simp only [XS.upd1] at h
      split at h
      · rename_i hs; cases h
        refine fin rfl fun k' => ?_
        have ho := fun t' => ob_set (X := X) (t' := t') (o := { X.ob t with c := (X.ob t).c.ins 24 j l }) hs.1
        cases k' with
        | c t' j' =>
          simp only [XS.vs, ho, Key.c.injEq]
          by_cases e : t' = t
          · subst e
            simp only [if_true, true_and]
            rw [Tr'.get_ins (small_pow hs.2)]
            split <;> rfl
          · rw [if_neg e, if_neg (fun h => e h.1)]
        | _ => simp only [XS.vs, ho, reduceCtorEq, if_false] <;> first | rfl | (split <;> simp_all) | skip
      · cases h
    | _ => cases h
  | y =>
    cases h
    refine fin rfl fun k' => ?_
    cases k' <;> simp only [XS.vs, reduceCtorEq, if_false, if_true] <;> rfl
  | v t => cases h
def XS.upd (X : XS) : List (Key × M) → Option XS
  | [] => some X
  | (k, m) :: r => (X.upd r).bind fun X1 => X1.upd1 k m
theorem upd_vs {X : XS} : ∀ {wr : List (Key × M)} {X' : XS}, X.upd wr = some X' → X'.vs = X.vs.upd wr
  | [], X', h => by cases h; rfl
  | (k, m) :: r, X', h => by
    simp only [XS.upd] at h
    cases h1 : X.upd r with
    | none => rw [h1] at h; cases h
    | some X1 =>
      rw [h1] at h
      rw [upd1uvs h, upd_vs h1, upd_upd]; rfl
def XS.put (X : XS) (d : Nat) (l : L) : Option XS := if small d = true then some { X with gs := X.gs.ins 24 d l } else none
theorem put_vs {X X' : XS} {d : Nat} {l : L} (h : X.put d l = some X') : X'.vs = X.vs.put d l := by
  unfold XS.put at h
  split at h
  · rename_i hs; cases h
    refine VS.same (fun t => ?_) fun k => rfl
    show ((X.gs.ins 24 d l).get t).getD .dead = if t = d then l else (X.gs.get t).getD .dead
    rw [Tr'.get_ins (small_pow hs)]
    split <;> rfl
  · cases h
def XS.apply (X : XS) (d : Option Nat) (e : Eff) : Option XS :=
  (X.upd e.wr).bind fun X1 => match d with | some d => X1.put d e.val | none => some X1
theorem apply_vs {X X' : XS} {d : Option Nat} {e : Eff} (h : X.apply d e = some X') : X'.vs = X.vs.apply d e := by
  unfold XS.apply at h
  cases h1 : X.upd e.wr with
  | none => rw [h1] at h; cases h
  | some X1 =>
    rw [h1] at h
    unfold VS.apply
    cases d with
    | none => cases h; rw [upd_vs h1]; rfl
    | some d => rw [put_vs h, upd_vs h1]; rfl

/-! What may be kept. -/
def XS.okL (X : XS) (ko : Tr' Unit) : L → L
  | .own t j => match ko.get t, (X.ob t).b with
    | some _, .box n => if j < n then .own t j else .dead
    | _, _ => .dead
  | .arr t g => match ko.get t, (X.ob t).a with
    | some _, .arr g' _ _ _ => if g = g' then .arr t g else .dead
    | _, _ => .dead
  | .p v => .p v
  | .nilS => .nilS
  | .e0 => .e0
  | .bsl t => match ko.get t, (X.ob t).b with
    | some _, .box _ => .bsl t
    | _, _ => .dead
  | _ => .dead
def cellsB (c : Tr' L) : Nat → Bool
  | 0 => true
  | n + 1 => (c.get n).isSome && cellsB c n
def okOb (o : Ob) : Bool := match o.b with | .box n => isNone o.a && cellsB o.c n | _ => true
def XS.gc (X : XS) (ks ko : Tr' Unit) (vk : Bool) : Option XS :=
  if X.mem.all okOb = true then some { gs := Tr'.keep (X.okL ko) ks X.gs, mem := Tr'.keep (fun o => { o with c := o.c.map (X.okL ko) }) ko X.mem, y := X.y, vv := if vk then X.vv.map (X.okL ko) else .nil } else none
theorem cellsB_get {c : Tr' L} : ∀ {n : Nat}, cellsB c n = true → ∀ j, j < n → ∃ l, c.get j = some l
  | 0, _, j, h => by omega
  | n + 1, hc, j, h => by
    simp only [cellsB, Bool.and_eq_true] at hc
    by_cases e : j = n
    · subst e; exact Option.isSome_iff_exists.1 hc.1
    · exact cellsB_get hc.2 j (by omega)
theorem gc_ob {X X' : XS} {ks ko : Tr' Unit} {vk : Bool} (h : X.gc ks ko vk = some X') {t : Nat} : X'.ob t = match ko.get t with | some _ => { X.ob t with c := (X.ob t).c.map (X.okL ko) } | none => noOb := by
  unfold XS.gc at h
  split at h
  · cases h
    unfold XS.ob
    simp only
    rw [Tr'.get_keep]
    cases ko.get t with
    | some _ => cases X.mem.get t <;> rfl
    | none => rfl
  · cases h
theorem okL_wk {X X' : XS} {ks ko : Tr' Unit} {vk : Bool} (h : X.gc ks ko vk = some X') (l : L) : wkL X'.vs.mem X.vs.mem (X.okL ko l) l := by
  cases l with
  | own t j =>
    simp only [XS.okL]
    split
    · rename_i _ n hk hb
      split
      · rename_i hj
        simp only [wkL]
        refine ⟨trivial, n, ?_, hj⟩
        show (X'.ob t).b = _
        rw [gc_ob h, hk]; exact hb
      · simp only [wkL]
    · simp only [wkL]
  | arr t g =>
    simp only [XS.okL]
    split
    · rename_i _ g' e es xs hk hb
      split
      · rename_i hj; subst hj
        simp only [wkL]
        refine ⟨⟨e, es, xs, ?_⟩, .inl ⟨g, e, es, xs, rfl, hb⟩⟩
        show (X'.ob t).a = _
        rw [gc_ob h, hk]; exact hb
      · simp only [wkL]
    · simp only [wkL]
  | bsl t =>
    simp only [XS.okL]
    split
    · rename_i _ n hk hb
      simp only [wkL]
      refine ⟨trivial, n, ?_, hb⟩
      show (X'.ob t).b = _
      rw [gc_ob h, hk]; exact hb
    · simp only [wkL]
  | _ => simp only [XS.okL, wkL]
theorem gc_wk {X X' : XS} {ks ko : Tr' Unit} {vk : Bool} (h : X.gc ks ko vk = some X') : WkS X.vs X'.vs := by
  have hob := fun t => gc_ob h (t := t)
  have hL := okL_wk h
  have hall : X.mem.all okOb = true := by
    unfold XS.gc at h
    split at h
    · assumption
    · cases h
  have hX : X' = { gs := Tr'.keep (X.okL ko) ks X.gs, mem := Tr'.keep (fun o => { o with c := o.c.map (X.okL ko) }) ko X.mem, y := X.y, vv := if vk then X.vv.map (X.okL ko) else .nil } := by
    unfold XS.gc at h
    rw [if_pos hall] at h; cases h; rfl
  have hok : ∀ t, okOb (X.ob t) = true := fun t => by
    unfold XS.ob
    cases hm : X.mem.get t with
    | none => rfl
    | some o => exact Tr'.all_get hall t o hm
  refine ⟨by rw [hX]; rfl, fun t l hb => ?_, fun t => ?_, fun t n hb => ?_, fun t g e es xs hb => ?_⟩
  · have hb' : mc (X'.vv.get t) = .cell l := hb
    rw [hX] at hb'
    simp only at hb'
    cases vk with
    | false => simp [Tr'.get, mc] at hb'
    | true =>
      simp only [if_true] at hb'
      rw [Tr'.get_map] at hb'
      cases hv : X.vv.get t with
      | none => rw [hv] at hb'; cases hb'
      | some l' =>
        rw [hv] at hb'
        cases hb'
        exact ⟨l', by show mc (X.vv.get t) = _; rw [hv]; rfl, hL l'⟩
  · have : X'.vs.get t = match ks.get t with | some _ => ((X.gs.get t).map (X.okL ko)).getD .dead | none => .dead := by
      show (X'.gs.get t).getD .dead = _
      rw [hX]
      simp only
      rw [Tr'.get_keep]
      cases ks.get t <;> rfl
    rw [this]
    split
    · show wkL _ _ _ ((X.gs.get t).getD .dead)
      cases X.gs.get t with
      | none => simp only [Option.map_none, Option.getD_none, wkL]
      | some l => exact hL l
    · simp only [wkL]
  · have hb' : (X'.ob t).b = .box n := hb
    rw [hob] at hb'
    split at hb'
    · rename_i _ hk
      have h1 := hok t
      unfold okOb at h1
      rw [show (X.ob t).b = .box n from hb'] at h1
      simp only [Bool.and_eq_true] at h1
      refine ⟨hb', ?_, fun hf => ?_, fun j hj => ?_⟩
      · show isNone (X'.ob t).a = true
        rw [hob, hk]; exact h1.1
      · have hf' : isNone (X'.ob t).f = true := hf
        rw [hob, hk] at hf'; exact hf'
      · obtain ⟨l, hl⟩ := cellsB_get h1.2 j hj
        refine ⟨X.okL ko l, l, ?_, ?_, hL l⟩
        · show mc ((X'.ob t).c.get j) = _
          rw [hob, hk]
          simp only
          rw [Tr'.get_map, hl]; rfl
        · show mc ((X.ob t).c.get j) = _
          rw [hl]; rfl
    · cases hb'
  · have hb' : (X'.ob t).a = .arr g e es xs := hb
    rw [hob] at hb'
    split at hb'
    · rename_i _ hk
      refine .inl ⟨g, hb', fun hf => ?_⟩
      have hf' : isNone (X'.ob t).f = true := hf
      rw [hob, hk] at hf'; exact hf'
    · cases hb'
end Go.Vm

/- The value machine as a program: regions, control, functions. -/
namespace Go.Vm
variable {Γ : Nat → Option (List V)} {P : Program} {σ : VS}

def stepE (P : Program) (Γ : Nat → Option (List V)) (call : FuncId → List V → Option R) (ops : Array Oper) (σ : VS) (o : Oper) : Option Eff :=
  match o.guard with
  | none => vopE P Γ call σ o.dst o.op
  | some (j, want) => (gdst ops j).bind fun d => match σ.get d with
    | .p (.b x) => if x = want then vopE P Γ call σ o.dst o.op else some noEff
    | .tup [] => some noEff
    | _ => none
theorem stepE_ok {call : FuncId → List V → Option R} (hc : ∀ f args r, call f args = some r → Spec P Γ f args r) {ops : Array Oper} {o : Oper} : Ex (fun K => vstep P Γ (Spec P Γ) ops σ o K) (stepE P Γ call ops σ o) := by
  intro e he K hK
  unfold stepE at he
  unfold vstep
  split at he
  · rename_i hg; rw [hg]; exact vopE_ok hc e he K hK
  · rename_i j want hg
    rw [hg]
    simp only
    cases hd : gdst ops j with
    | none => rw [hd] at he; cases he
    | some d =>
      rw [hd] at he
      simp only [Option.bind_some] at he
      refine wantO_iff.2 ⟨d, rfl, ?_⟩
      split at he
      · rename_i x hx
        rw [hx]
        split at he
        · rename_i h; exact ⟨fun _ => vopE_ok hc e he K hK, fun hn => (hn h).elim⟩
        · rename_i h; cases he; exact ⟨fun hn => (h hn).elim, fun _ => hK⟩
      · rename_i hx; cases he; rw [hx]; exact hK
      · cases he
def regE (P : Program) (Γ : Nat → Option (List V)) (call : FuncId → List V → Option R) (ops : Array Oper) : List Oper → List Tr → XS → Option (List Tr × XS)
  | [], tr, X => some (tr, X)
  | o :: r, tr, X => (stepE P Γ call ops X.vs o).bind fun e => (X.apply o.dst e).bind fun X' => regE P Γ call ops r (e.tr :: tr) X'
theorem regE_ok {call : FuncId → List V → Option R} (hc : ∀ f args r, call f args = some r → Spec P Γ f args r) {ops : Array Oper} {K : VS → Prop} : ∀ {l : List Oper} {tr tr' : List Tr} {X X' : XS}, regE P Γ call ops l tr X = some (tr', X') → K X'.vs → vops P Γ (Spec P Γ) ops l X.vs K ∧ (indepOk ops tr'.reverse = true → vopsD P Γ (Spec P Γ) ops l tr X.vs K)
  | [], tr, tr', X, X', h, hK => by cases h; exact ⟨hK, fun h => ⟨h, hK⟩⟩
  | o :: r, tr, tr', X, X', h, hK => by
    simp only [regE] at h
    cases he : stepE P Γ call ops X.vs o with
    | none => rw [he] at h; cases h
    | some e =>
      rw [he] at h
      simp only [Option.bind_some] at h
      cases ha : X.apply o.dst e with
      | none => rw [ha] at h; cases h
      | some X1 =>
        rw [ha] at h
        simp only [Option.bind_some] at h
        have ih := regE_ok hc h hK
        rw [apply_vs ha] at ih
        exact ⟨stepE_ok hc e he (fun e => vops P Γ (Spec P Γ) ops r (X.vs.apply o.dst e) K) ih.1, fun hi => stepE_ok hc e he (fun e => vopsD P Γ (Spec P Γ) ops r (e.tr :: tr) (X.vs.apply o.dst e) K) (ih.2 hi)⟩

/-! What is reached. -/
def refs (l : L) : List Nat := match l with | .own t _ => [t] | .arr t _ => [t] | .bsl t => [t] | _ => []
def mark (X : XS) : Nat → List Nat → Tr' Unit → Tr' Unit
  | 0, _, s => s
  | _, [], s => s
  | n + 1, t :: r, s => match s.get t with
    | some _ => mark X n r s
    | none => mark X n ((X.ob t).c.toL.flatMap refs ++ r) (s.ins 24 t ())
def dom {α : Type} (m : Tr' α) : Tr' Unit := m.map fun _ => ()
def XS.gcS (X : XS) (ks : Tr' Unit) : Option XS := X.gc ks (mark X 1000 ((Tr'.keep id ks X.gs).toL.flatMap refs ++ X.vv.toL.flatMap refs) .nil) true

def XS.keepX (X : XS) : XS := { gs := .nil, mem := X.mem, y := X.y, vv := X.gs }
def XS.opnX (X : XS) : XS := { X with gs := X.vv }
def XS.backX (X : XS) : XS := { X with gs := X.vv, vv := .nil }
def XS.shutX (X : XS) : XS := { X with gs := .nil }
theorem opnX_vs {X : XS} : X.opnX.vs = X.vs.opn := by
  refine VS.same (fun t => ?_) fun k => by cases k <;> rfl
  show (X.vv.get t).getD .dead = vslot (mc (X.vv.get t))
  cases X.vv.get t <;> rfl
theorem backX_vs {X : XS} : X.backX.vs = X.vs.back := by
  refine VS.same (fun t => ?_) fun k => by cases k <;> rfl
  show (X.vv.get t).getD .dead = vslot (mc (X.vv.get t))
  cases X.vv.get t <;> rfl
theorem shutX_vs {X : XS} : X.shutX.vs = X.vs.shut := VS.same (fun _ => rfl) fun k => by cases k <;> rfl
theorem keepX_wk {X X' : XS} (h : WkS X.keepX.vs X'.vs) (hg : X'.gs = .nil) : WkS X.vs.keep X'.vs := by
  have hm : ∀ k, (∀ t, k ≠ .v t) → X.keepX.vs.mem k = X.vs.keep.mem k := fun k hk => by cases k <;> first | rfl | exact ((hk _) rfl).elim
  have hL : ∀ l l', wkL X'.vs.mem X.keepX.vs.mem l l' → wkL X'.vs.mem X.vs.keep.mem l l' := fun l l' h => by
    cases l with
    | arr t g => simp only [wkL] at h ⊢; rw [← hm _ (by simp)]; exact h
    | bsl t => simp only [wkL] at h ⊢; rw [← hm _ (by simp)]; exact h
    | _ => simpa only [wkL] using h
  refine ⟨h.gho, fun t l hb => ?_, fun t => ?_, fun t n hb => ?_, fun t g e es xs hb => ?_⟩
  · obtain ⟨l', p, q⟩ := h.virts t l hb
    refine ⟨l', ?_, hL _ _ q⟩
    have p' : mc (X.gs.get t) = .cell l' := p
    show M.cell ((X.gs.get t).getD .dead) = _
    cases hg : X.gs.get t with
    | none => rw [hg] at p'; cases p'
    | some l2 => rw [hg] at p'; cases p'; rfl
  · have : X'.vs.get t = .dead := by show (X'.gs.get t).getD .dead = _; rw [hg]; rfl
    rw [this]; simp only [wkL]
  · obtain ⟨p, q, r, s⟩ := h.boxes t n hb
    refine ⟨p, q, r, fun j hj => ?_⟩
    obtain ⟨l, l', k1, k2, k3⟩ := s j hj
    exact ⟨l, l', k1, k2, hL _ _ k3⟩
  · exact h.arrs t g e es xs hb
def XS.puts : List (Nat × V) → XS → Option XS
  | [], X => some X
  | (t, v) :: r, X => (X.put t (.p v)).bind fun X1 => XS.puts r X1
theorem putsX_vs : ∀ {l : List (Nat × V)} {X X' : XS}, XS.puts l X = some X' → X'.vs = VS.puts l X.vs
  | [], X, X', h => by cases h; rfl
  | (t, v) :: r, X, X', h => by
    simp only [XS.puts] at h
    cases h1 : X.put t (.p v) with
    | none => rw [h1] at h; cases h
    | some X1 => rw [h1] at h; rw [putsX_vs h, put_vs h1]; rfl

def roundsE (run : Code → XS → Option (Exit × XS)) (ps : Array Nat) (assign body : Code) : List (List V) → XS → Option (Exit × XS)
  | [], X => some (.normal, X.backX)
  | vs :: r, X => if vs.length = ps.size then (XS.puts (ps.toList.zip vs) X.opnX).bind fun X1 => match run assign X1 with
    | some (.normal, X2) => match run body X2 with
      | some (.normal, X3) => (X3.shutX.gcS .nil).bind fun X4 => roundsE run ps assign body r X4
      | some (.ret, X3) => some (.ret, X3.backX)
      | some (.exit id, X3) => some (.exit id, X3.backX)
      | _ => none
    | _ => none else none

theorem gcS_wk {X X' : XS} {ks : Tr' Unit} (h : X.gcS ks = some X') : WkS X.vs X'.vs := gc_wk h
def Tr'.del {α : Type} : Nat → Tr' α → Nat → Tr' α
  | 0, t, _ => t
  | _, .nil, _ => .nil
  | n + 1, .node v l r, k => if k = 0 then .node none l r else if k % 2 = 1 then .node v (Tr'.del n l (k / 2)) r else .node v l (Tr'.del n r (k / 2 - 1))
def firstOps : Code → List Oper
  | .seq x _ => firstOps x
  | .block _ c => firstOps c
  | .region _ ops _ => ops.toList
  | _ => []
/-- The sites that are made anew where an elder thing of theirs still lies. -/
def stale (X : XS) (c : Code) : List Nat := (firstOps c).filterMap fun o => match o.dst with | some d => if fresh X.vs d = true then none else some d | none => none
def XS.tidy (X : XS) (c : Code) : XS := match stale X c with
  | [] => X
  | l => match X.gcS (l.foldl (fun s d => Tr'.del 24 s d) (dom X.gs)) with
    | some X2 => X2
    | none => X
theorem tidy_say {X : XS} {c : Code} {K : VS → Prop} (h : K (X.tidy c).vs) : vsay K X.vs := by
  unfold XS.tidy at h
  split at h
  · exact .inl h
  · split at h
    · rename_i hg; exact .inr ⟨_, ⟨_, .inl rfl, gcS_wk hg⟩, h⟩
    · exact .inl h

def exE (P : Program) (Γ : Nat → Option (List V)) (call : FuncId → List V → Option R) (itr : FuncId → List V → List V → Option (List (List V))) : Nat → Code → XS → Option (Exit × XS)
  | 0, _, _ => none
  | n + 1, c, X => match c with
    | .skip => some (.normal, X)
    | .region _ ops d => (regE P Γ call ops ops.toList [] X).bind fun q => match d with
      | false => some (.normal, q.2)
      | true => if indepOk ops q.1.reverse = true then some (.normal, q.2) else none
    | .seq x y => match exE P Γ call itr n x X with
      | some (.normal, X') => exE P Γ call itr n y (X'.tidy y)
      | o => o
    | .cond c x y => match X.vs.ev Γ c with
      | .p (.b true) => exE P Γ call itr n x X
      | .p (.b false) => exE P Γ call itr n y X
      | _ => none
    | .block id c => match exE P Γ call itr n c X with
      | some (.exit id', X') => some (if id' = id then .normal else .exit id', X')
      | o => o
    | .loop c => match exE P Γ call itr n c X with
      | some (.normal, X') => (X'.gcS (dom X.gs)).bind fun X2 => exE P Γ call itr n (.loop c) X2
      | o => o
    | .exit id => some (.exit id, X)
    | .ret => some (.ret, X)
    | .rangeFunc g ps assign body => match X.vs.ev Γ g with
      | .p (.fn f first caps) => (itr f first caps).bind fun ys => (X.keepX.gcS .nil).bind fun X1 => match X1.gs with
        | .nil => roundsE (exE P Γ call itr n) ps assign body ys X1
        | _ => none
      | _ => none
    | _ => none


theorem exE_ok {call : FuncId → List V → Option R} {itr : FuncId → List V → List V → Option (List (List V))} (hc : ∀ f args r, call f args = some r → Spec P Γ f args r) (hi : ∀ f first caps ys, itr f first caps = some ys → SpecI2 P Γ f first caps ys) : ∀ {n : Nat} {c : Code} {X X' : XS} {e : Exit}, exE P Γ call itr n c X = some (e, X') → ∀ {Q : Exit → VS → Prop}, Q e X'.vs → vcode P Γ (Spec P Γ) noY c Q X.vs
  | 0, c, X, X', e, h, _, _ => by cases h
  | n + 1, c, X, X', e, h, Q, hQ => by
    cases c with
    | skip => cases h; exact hQ
    | region id ops d =>
      simp only [exE] at h
      cases hr : regE P Γ call ops ops.toList [] X with
      | none => rw [hr] at h; cases h
      | some q =>
        rw [hr] at h
        obtain ⟨tr, X1⟩ := q
        cases d with
        | false => cases h; exact .inl (regE_ok (K := Q .normal) hc hr hQ).1
        | true =>
          simp only [Option.bind_some] at h
          split at h
          · rename_i hd; cases h; exact (regE_ok (K := Q .normal) hc hr hQ).2 hd
          · cases h
    | seq x y =>
      simp only [exE] at h
      split at h
      · rename_i X1 hx
        exact exE_ok hc hi hx (Q := thenV (fun σ => vsay (vcode P Γ (Spec P Γ) noY y Q) σ) Q) (tidy_say (K := vcode P Γ (Spec P Γ) noY y Q) (exE_ok hc hi h hQ))
      · rename_i hx
        cases hx2 : exE P Γ call itr n x X with
        | none => rw [hx2] at h; cases h
        | some o =>
          rw [hx2] at h; cases h
          refine exE_ok hc hi hx2 (Q := thenV (fun σ => vsay (vcode P Γ (Spec P Γ) noY y Q) σ) Q) ?_
          cases e with
          | normal => exact (hx _ hx2).elim
          | _ => exact hQ
    | cond c x y =>
      simp only [exE] at h
      show vbool _ _ _
      split at h
      · rename_i hx; rw [hx]; exact ⟨fun _ => exE_ok hc hi h hQ, fun h => (by cases h)⟩
      · rename_i hx; rw [hx]; exact ⟨fun h => (by cases h), fun _ => exE_ok hc hi h hQ⟩
      · cases h
    | block id c =>
      simp only [exE] at h
      split at h
      · rename_i id' X1 hx
        cases h
        refine exE_ok hc hi hx (Q := blockV id Q) ?_
        show if id' = id then _ else _
        split
        · rename_i he; rw [if_pos he] at hQ; exact hQ
        · rename_i he; rw [if_neg he] at hQ; exact hQ
      · rename_i hx
        cases hx2 : exE P Γ call itr n c X with
        | none => rw [hx2] at h; cases h
        | some o =>
          rw [hx2] at h; cases h
          refine exE_ok hc hi hx2 (Q := blockV id Q) ?_
          cases e with
          | exit id' => exact (hx _ _ hx2).elim
          | _ => exact hQ
    | loop c =>
      refine ⟨fun m σ' => m ≤ n + 1 ∧ ∃ X1, σ' = X1.vs ∧ exE P Γ call itr m (.loop c) X1 = some (e, X'), n + 1, X.vs, .inl rfl, ⟨Nat.le_refl _, X, rfl, h⟩, ?_⟩
      rintro m σ' ⟨hm, X1, rfl, h1⟩
      cases m with
      | zero => cases h1
      | succ m =>
        simp only [exE] at h1
        have hm' : m ≤ n := by omega
        split at h1
        · rename_i X2 hx
          cases hg : X2.gcS (dom X1.gs) with
          | none => rw [hg] at h1; cases h1
          | some X3 =>
            rw [hg] at h1
            exact exE_ok hc hi hx (Q := thenV _ Q) ⟨m, X3.vs, .inr (gcS_wk hg), ⟨by omega, X3, rfl, h1⟩, by omega⟩
        · rename_i hx
          cases hx2 : exE P Γ call itr m c X1 with
          | none => rw [hx2] at h1; cases h1
          | some o =>
            rw [hx2] at h1; cases h1
            refine exE_ok hc hi hx2 (Q := thenV _ Q) ?_
            cases e with
            | normal => exact (hx _ hx2).elim
            | _ => exact hQ
    | exit id => cases h; exact hQ
    | ret => cases h; exact hQ
    | rangeFunc g ps assign body =>
      simp only [exE] at h
      split at h
      · rename_i f first caps hg
        cases hy : itr f first caps with
        | none => rw [hy] at h; cases h
        | some ys =>
          rw [hy] at h
          simp only [Option.bind_some] at h
          cases hk : X.keepX.gcS .nil with
          | none => rw [hk] at h; cases h
          | some X1 =>
            rw [hk] at h
            simp only [Option.bind_some] at h
            split at h
            · rename_i hgs
              refine ⟨rfl, f, first, caps, ys, fun i τ => ∃ X1, τ = X1.vs ∧ roundsE (exE P Γ call itr n) ps assign body (ys.drop i) X1 = some (e, X'), hg, hi _ _ _ _ hy, ⟨X1.vs, keepX_wk (gcS_wk hk) hgs, X1, rfl, h⟩, ?_, ?_⟩
              · rintro i vs τ hv ⟨X2, rfl, h2⟩
                have hd : ys.drop i = vs :: ys.drop (i + 1) := by
                  obtain ⟨hlt, he⟩ := List.getElem?_eq_some_iff.1 hv
                  rw [List.drop_eq_getElem_cons hlt, he]
                rw [hd] at h2
                simp only [roundsE] at h2
                split at h2
                · rename_i hlen
                  refine ⟨hlen, ?_⟩
                  cases hp : XS.puts (ps.toList.zip vs) X2.opnX with
                  | none => rw [hp] at h2; cases h2
                  | some X3 =>
                    rw [hp] at h2
                    simp only [Option.bind_some] at h2
                    rw [← opnX_vs, ← putsX_vs hp]
                    split at h2
                    · rename_i X4 ha
                      refine exE_ok hc hi ha (Q := thenN _) (.inl ?_)
                      split at h2
                      · rename_i X5 hb
                        cases hg2 : X5.shutX.gcS .nil with
                        | none => rw [hg2] at h2; cases h2
                        | some X6 =>
                          rw [hg2] at h2
                          refine exE_ok hc hi hb (Q := roundV _ i Q) ⟨X6.vs, ?_, X6, rfl, h2⟩
                          rw [← shutX_vs]; exact gcS_wk hg2
                      · rename_i X5 hb
                        cases h2
                        refine exE_ok hc hi hb (Q := roundV _ i Q) ?_
                        show Q .ret X5.vs.back
                        rw [← backX_vs]; exact hQ
                      · rename_i id X5 hb
                        cases h2
                        refine exE_ok hc hi hb (Q := roundV _ i Q) ?_
                        show Q (.exit id) X5.vs.back
                        rw [← backX_vs]; exact hQ
                      · cases h2
                    · cases h2
                · cases h2
              · rintro τ ⟨X2, rfl, h2⟩
                rw [List.drop_length] at h2
                simp only [roundsE] at h2
                cases h2
                rw [← backX_vs]; exact hQ
            · cases h
      · cases h
    | _ => cases h
termination_by n => n

/-! Functions. -/
def resE (P : Program) (σ : VS) : List ResultVar → Option (List L)
  | [] => some []
  | .tmp t :: r => (resE P σ r).map (σ.get t :: ·)
  | .cell a t :: r => match σ.get a with
    | .own s 0 => (vloadE P σ t (.own s 0)).bind fun e => (resE P σ r).map (e.val :: ·)
    | _ => none
theorem resE_ok : ∀ {rs : List ResultVar} {ls : List L} {C : List L → Prop}, resE P σ rs = some ls → C ls → vresL P σ rs C
  | [], ls, C, h, hC => by cases h; exact hC
  | .tmp t :: r, ls, C, h, hC => by
    simp only [resE] at h
    cases hr : resE P σ r with
    | none => rw [hr] at h; cases h
    | some l => rw [hr] at h; cases h; exact resE_ok (C := fun ls => C (σ.get t :: ls)) hr hC
  | .cell a t :: r, ls, C, h, hC => by
    simp only [resE] at h
    simp only [vresL]
    split at h
    · rename_i s hs
      rw [hs]
      simp only
      cases he : vloadE P σ t (.own s 0) with
      | none => rw [he] at h; cases h
      | some e =>
        rw [he] at h
        cases hr : resE P σ r with
        | none => rw [hr] at h; cases h
        | some l =>
          rw [hr] at h; cases h
          exact vloadE_ok e he (fun e => vresL P σ r fun ls => C (e.val :: ls)) (resE_ok (C := fun ls => C (e.val :: ls)) hr hC)
    · cases h
/-- What is handed back: an own array that nobody else knows, or values. -/
def resR (σ : VS) (ls : List L) : Option R :=
  match resX σ ls with
  | some (r, ts) => if nodupB ts = true then some r else (pubWith (pub1 σ) ls).map fun q => rOf q.vs
  | none => (pubWith (pub1 σ) ls).map fun q => rOf q.vs

def argsT : Nat → List V → Tr' L
  | _, [] => .nil
  | i, x :: xs => (argsT (i + 1) xs).ins 24 i (.p x)
def initX (args : List V) : XS := ⟨argsT 0 args, .nil, .none, .nil⟩
theorem argsT_get : ∀ {xs : List V} {i t : Nat}, i + xs.length ≤ 1000 → ((argsT i xs).get t).getD .dead = lookG t (argsG i xs)
  | [], i, t, _ => rfl
  | x :: xs, i, t, h => by
    simp only [List.length_cons] at h
    simp only [argsT, argsG, lookG]
    rw [Tr'.get_ins (by have : (2:Nat)^24 = 16777216 := rfl; omega)]
    split
    · rfl
    · exact argsT_get (by omega)
theorem initX_vs {args : List V} (h : args.length ≤ 1000) : (initX args).vs = VS.of (argsG 0 args) [] :=
  VS.same (fun t => argsT_get (by omega)) fun k => by cases k <;> rfl

def fnE (P : Program) (Γ : Nat → Option (List V)) (orc : FuncId → List V → Option R) (itr : FuncId → List V → List V → Option (List (List V))) (fuel : Nat) : Nat → FuncId → List V → Option R
  | 0, _, _ => none
  | d + 1, f, args => match P.funcs[f]? with
    | some fn => match fn.body with
      | some c => if fn.name ≠ "runtime.NumGoroutine" ∧ args.length ≤ fn.ntmps ∧ args.length ≤ 1000 ∧ codeDsts fn.ntmps c = true ∧ noOwn args = true then
          (match exE P Γ (fun f args => match orc f args with | some r => some r | none => fnE P Γ orc itr fuel d f args) itr fuel c (initX args) with
          | some (.normal, X) => (resE P X.vs fn.results.toList).bind fun ls => resR X.vs ls
          | some (.ret, X) => (resE P X.vs fn.results.toList).bind fun ls => resR X.vs ls
          | _ => none) else none
      | none => none
    | none => none

theorem resR_cases {ls : List L} {r : R} (h : resR σ ls = some r) : isRes r σ ls ∨ wantO (pubWith (pub1 σ) ls) fun q => r = rOf q.vs := by
  have pub : (pubWith (pub1 σ) ls).map (fun q => rOf q.vs) = some r → wantO (pubWith (pub1 σ) ls) fun q => r = rOf q.vs := fun h => by
    cases hq : pubWith (pub1 σ) ls with
    | none => rw [hq] at h; cases h
    | some q => rw [hq] at h; cases h; exact rfl
  unfold resR at h
  split at h
  · rename_i r' ts hx
    split at h
    · rename_i hn; cases h; exact .inl ⟨ts, hx, hn⟩
    · exact .inr (pub h)
  · exact .inr (pub h)

theorem fnE_ok {orc : FuncId → List V → Option R} {itr : FuncId → List V → List V → Option (List (List V))} (hm : P.follows .mixedOrders = true) (ho : ∀ f args r, orc f args = some r → Spec P Γ f args r) (hi : ∀ f first caps ys, itr f first caps = some ys → SpecI2 P Γ f first caps ys) {fuel : Nat} : ∀ {d : Nat} {f : FuncId} {args : List V} {r : R}, fnE P Γ orc itr fuel d f args = some r → Spec P Γ f args r
  | 0, _, _, _, h => by cases h
  | d + 1, f, args, r, h => by
    simp only [fnE] at h
    cases hf : P.funcs[f]? with
    | none => rw [hf] at h; cases h
    | some fn =>
      rw [hf] at h
      simp only at h
      cases hb : fn.body with
      | none => rw [hb] at h; cases h
      | some c =>
        rw [hb] at h
        simp only at h
        split at h
        · rename_i hc
          obtain ⟨h1, h2, h3, h4, hno⟩ := hc
          have hcall : ∀ f args r, (match orc f args with | some r => some r | none => fnE P Γ orc itr fuel d f args) = some r → Spec P Γ f args r := fun f args r h => by
            split at h
            · rename_i r' hr; cases h; exact ho _ _ _ hr
            · exact fnE_ok hm ho hi h
          have fin : ∀ X : XS, (resE P X.vs fn.results.toList).bind (fun ls => resR X.vs ls) = some r → (vret P fn.results.toList r X.vs ∨ vretX P fn.results.toList r X.vs) := fun X hX => by
            cases hr : resE P X.vs fn.results.toList with
            | none => rw [hr] at hX; cases hX
            | some ls =>
              rw [hr] at hX
              rcases resR_cases hX with hX | hX
              · exact .inr (resE_ok (C := isRes r X.vs) hr hX)
              · exact .inl (resE_ok (C := fun ls => wantO (pubWith (pub1 X.vs) ls) fun q => r = rOf q.vs) hr hX)
          have main : ∀ (e : Exit) (X : XS), (e = .normal ∨ e = .ret) → exE P Γ (fun f args => match orc f args with | some r => some r | none => fnE P Γ orc itr fuel d f args) itr fuel c (initX args) = some (e, X) → (vret P fn.results.toList r X.vs ∨ vretX P fn.results.toList r X.vs) → Spec P Γ f args r := fun e X he hx hr => by
            have hs : ∀ {Q : Exit → VS → Prop}, Q e X.vs → vcode P Γ (Spec P Γ) noY c Q (VS.of (argsG 0 args) []) := fun hQ => by
              rw [← initX_vs h3]; exact exE_ok hcall hi hx hQ
            rcases hr with hr | hr
            · refine spec_of hm (fun _ _ _ h => h) hf h1 hb (rs := fn.results.toList) (by simp) hno rfl h2 h4 (hs ?_)
              rcases he with rfl | rfl <;> exact hr
            · refine spec_of_x hm (fun _ _ _ h => h) hf h1 hb (rs := fn.results.toList) (by simp) hno rfl h2 h4 (hs ?_)
              rcases he with rfl | rfl <;> exact hr
          split at h
          · rename_i X hx; exact main _ X (.inl rfl) hx (fin X h)
          · rename_i X hx; exact main _ X (.inr rfl) hx (fin X h)
          · cases h
        · cases h
end Go.Vm

/- The value machine as a program: iterators, and functions that are handed yield. -/
namespace Go.Vm
variable {Γ : Nat → Option (List V)} {P : Program} {σ : VS}

abbrev YL := List (Nat × List V)
def isYld : L → Bool
  | .p (.yld _) => true
  | _ => false
def isY (Γ : Nat → Option (List V)) (σ : VS) (o : Oper) : Bool := match o.op with
  | .call ⟨.value f, args, _⟩ => isYld (σ.ev Γ f) || args.toList.any fun a => isYld (σ.ev Γ a)
  | _ => false
inductive YC where
  | y (l : Nat) (vs : List V)
  | f (g : FuncId) (args : List V)
def ycallE (Γ : Nat → Option (List V)) (σ : VS) (o : Oper) : Option (YC × List Nat) :=
  match o.op, o.guard with
  | .call ⟨.value f, args, _⟩, none => (pubWith (pub1 σ) (args.toList.map (σ.ev Γ))).bind fun q => match σ.ev Γ f with
    | .p (.yld l) => some (.y l q.vs, q.fz)
    | .p (.fn g first caps) => some (.f g (first ++ q.vs ++ caps), q.fz)
    | _ => none
  | _, _ => none
theorem ycall_y {o : Oper} {l i : Nat} {vs : List V} {fz : List Nat} {Yp : Nat → Nat → List V → Prop} {K : VS → Prop} (h : ycallE Γ σ o = some (.y l vs, fz)) (hi : σ.mem .y = .cnt i) (hy : Yp l i vs) (h1 : K (σ.apply o.dst ⟨yresL false true, [], (.y, .cnt (i + 1)) :: frzs fz⟩)) (h2 : K (σ.apply o.dst ⟨yresL false false, [], (.y, .stop) :: frzs fz⟩)) : vyl P Γ Yp o σ K := by
  unfold ycallE at h
  unfold vyl
  split at h
  · rename_i f args ats ho hg
    rw [ho, hg]
    simp only
    cases hq : pubWith (pub1 σ) (args.toList.map (σ.ev Γ)) with
    | none => rw [hq] at h; cases h
    | some q =>
      rw [hq] at h
      simp only [Option.bind_some] at h
      split at h
      · rename_i l' hl
        cases h
        rw [hl]
        exact wantO_iff.2 ⟨q, rfl, i, hi, hy, h1, h2⟩
      · cases h
      · cases h
  · cases h
theorem ycall_f {o : Oper} {u : Bool} {g l i : Nat} {as : List V} {zs : List (List V)} {fz : List Nat} {Yp : Nat → Nat → List V → Prop} {K : VS → Prop} (h : ycallE Γ σ o = some (.f g as, fz)) (hi : σ.mem .y = .cnt i) (hs : SpecYl P Γ u l i g as zs) (hy : ∀ k z, zs[k]? = some z → Yp l (i + k) z) (h1 : K (σ.apply o.dst ⟨yresL u true, [], (.y, .cnt (i + zs.length)) :: frzs fz⟩)) (h2 : K (σ.apply o.dst ⟨yresL u false, [], (.y, .stop) :: frzs fz⟩)) : vyl P Γ Yp o σ K := by
  unfold ycallE at h
  unfold vyl
  split at h
  · rename_i f args ats ho hg
    rw [ho, hg]
    simp only
    cases hq : pubWith (pub1 σ) (args.toList.map (σ.ev Γ)) with
    | none => rw [hq] at h; cases h
    | some q =>
      rw [hq] at h
      simp only [Option.bind_some] at h
      split at h
      · cases h
      · rename_i g' first caps hl
        cases h
        rw [hl]
        exact wantO_iff.2 ⟨q, rfl, u, l, i, zs, hi, hs, hy, h1, h2⟩
      · cases h
  · cases h

def regY1 (P : Program) (Γ : Nat → Option (List V)) (call : FuncId → List V → Option R) (ops : Array Oper) : List Oper → XS → Option (List Oper × Option (Oper × List Oper) × XS)
  | [], X => some ([], none, X)
  | o :: r, X => if isY Γ X.vs o = true then some ([], some (o, r), X) else (stepE P Γ call ops X.vs o).bind fun e => (X.apply o.dst e).bind fun X' => (regY1 P Γ call ops r X').map fun q => (o :: q.1, q.2)
def restY : Option (Oper × List Oper) → List Oper
  | none => []
  | some (o, r) => o :: r
theorem regY1uok {call : FuncId → List V → Option R} (hc : ∀ f args r, call f args = some r → Spec P Γ f args r) {ops : Array Oper} : ∀ {l : List Oper} {X : XS} {q : List Oper × Option (Oper × List Oper) × XS}, regY1 P Γ call ops l X = some q → (∀ K : VS → Prop, K q.2.2.vs → vops P Γ (Spec P Γ) ops q.1 X.vs K) ∧ l = q.1 ++ restY q.2.1
  | [], X, q, h => by cases h; exact ⟨fun K h => h, rfl⟩
  | o :: r, X, q, h => by
    simp only [regY1] at h
    split at h
    · cases h; exact ⟨fun K h => h, rfl⟩
    · cases he : stepE P Γ call ops X.vs o with
      | none => rw [he] at h; cases h
      | some e =>
        rw [he] at h
        simp only [Option.bind_some] at h
        cases ha : X.apply o.dst e with
        | none => rw [ha] at h; cases h
        | some X1 =>
          rw [ha] at h
          simp only [Option.bind_some] at h
          cases hr : regY1 P Γ call ops r X1 with
          | none => rw [hr] at h; cases h
          | some q1 =>
            rw [hr] at h
            cases h
            obtain ⟨h1, h2⟩ := regY1uok hc hr
            refine ⟨fun K hK => ?_, by rw [h2]; rfl⟩
            have h3 := h1 K hK
            rw [apply_vs ha] at h3
            exact stepE_ok hc e he (fun e => vops P Γ (Spec P Γ) ops q1.1 (X.vs.apply o.dst e) K) h3

def sameY : M → M → Bool
  | .cnt i, .cnt j => i == j
  | .stop, .stop => true
  | _, _ => false
theorem sameY_eq : ∀ {a b : M}, sameY a b = true → a = b := by
  intro a b h
  cases a <;> cases b <;> simp [sameY] at h ⊢
  exact h

/-- Behind a call that hands over 'zs' and comes to the count 'j', or stops. -/
def yieldE (P : Program) (Γ : Nat → Option (List V)) (call : FuncId → List V → Option R) (ops : Array Oper) (o : Oper) (l2 : List Oper) (X1 : XS) (fz : List Nat) (u : Bool) (j : Nat) (k : XS → Option YL) (zs : YL) : Option YL :=
  (X1.apply o.dst ⟨yresL u true, [], (.y, .cnt j) :: frzs fz⟩).bind fun Xt => (X1.apply o.dst ⟨yresL u false, [], (.y, .stop) :: frzs fz⟩).bind fun Xf =>
    (regE P Γ call ops l2 [] Xt).bind fun qt => (regE P Γ call ops l2 [] Xf).bind fun qf => if sameY qt.2.y (.cnt j) = true ∧ sameY qf.2.y .stop = true then (match k qf.2 with
      | some [] => (k qt.2).map fun r => zs ++ r
      | _ => none) else none
theorem yieldE_ok {call : FuncId → List V → Option R} (hc : ∀ f args r, call f args = some r → Spec P Γ f args r) {ops : Array Oper} {o : Oper} {l2 : List Oper} {X1 : XS} {fz : List Nat} {u : Bool} {j : Nat} {k : XS → Option YL} {zs r : YL} (h : yieldE P Γ call ops o l2 X1 fz u j k zs = some r) :
    ∃ r2 Xt Xf, r = zs ++ r2 ∧ k Xt = some r2 ∧ k Xf = some [] ∧ Xt.y = .cnt j ∧ Xf.y = .stop ∧ ∀ K : VS → Prop, (K Xt.vs → vops P Γ (Spec P Γ) ops l2 (X1.vs.apply o.dst ⟨yresL u true, [], (.y, .cnt j) :: frzs fz⟩) K) ∧ (K Xf.vs → vops P Γ (Spec P Γ) ops l2 (X1.vs.apply o.dst ⟨yresL u false, [], (.y, .stop) :: frzs fz⟩) K) := by
  unfold yieldE at h
  obtain ⟨Xt, ht, h⟩ := Option.bind_eq_some_iff.1 h
  obtain ⟨Xf, hf, h⟩ := Option.bind_eq_some_iff.1 h
  obtain ⟨qt, hqt, h⟩ := Option.bind_eq_some_iff.1 h
  obtain ⟨qf, hqf, h⟩ := Option.bind_eq_some_iff.1 h
  split at h
  · rename_i hs
    split at h
    · rename_i hk
      obtain ⟨r2, hr2, rfl⟩ := Option.map_eq_some_iff.1 h
      refine ⟨r2, qt.2, qf.2, rfl, hr2, hk, sameY_eq hs.1, sameY_eq hs.2, fun K => ⟨fun hK => ?_, fun hK => ?_⟩⟩
      · have := (regE_ok (K := K) hc (tr' := qt.1) (X' := qt.2) hqt hK).1
        rw [apply_vs ht] at this; exact this
      · have := (regE_ok (K := K) hc (tr' := qf.1) (X' := qf.2) hqf hK).1
        rw [apply_vs hf] at this; exact this
    · cases h
  · cases h

/-- A guarded call: what is left to do. -/
def gyE (ops : Array Oper) (σ : VS) (o : Oper) : Option (Option Oper) := match o.guard with
  | none => some (some o)
  | some (j, w) => (gdst ops j).bind fun d => match σ.get d with
    | .p (.b x) => if x = w then some (some { o with guard := none }) else some none
    | .tup [] => some none
    | _ => none
theorem gy_go {ops : Array Oper} {o o' : Oper} {Yp : Nat → Nat → List V → Prop} {K : VS → Prop} (h : gyE ops σ o = some (some o')) (hk : vyl P Γ Yp o' σ K) : vyg P Γ Yp ops o σ K := by
  unfold gyE at h
  unfold vyg
  split at h
  · rename_i hg; cases h; rw [hg]; exact hk
  · rename_i j w hg
    obtain ⟨d, hd, h⟩ := Option.bind_eq_some_iff.1 h
    rw [hg]
    refine wantO_iff.2 ⟨d, hd, ?_⟩
    split at h
    · rename_i x hx
      split at h
      · rename_i hxw; cases h; rw [hx]; exact ⟨fun _ => hk, fun hn => (hn hxw).elim⟩
      · cases h
    · cases h
    · cases h
theorem gy_skip {ops : Array Oper} {o : Oper} {Yp : Nat → Nat → List V → Prop} {K : VS → Prop} (h : gyE ops σ o = some none) (hk : K (σ.apply o.dst noEff)) : vyg P Γ Yp ops o σ K := by
  unfold gyE at h
  unfold vyg
  split at h
  · cases h
  · rename_i j w hg
    obtain ⟨d, hd, h⟩ := Option.bind_eq_some_iff.1 h
    rw [hg]
    refine wantO_iff.2 ⟨d, hd, ?_⟩
    split at h
    · rename_i x hx
      split at h
      · cases h
      · rename_i hxw; rw [hx]; exact ⟨fun hn => (hxw hn).elim, fun _ => hk⟩
    · rename_i hx; rw [hx]; exact hk
    · cases h

def exY (P : Program) (Γ : Nat → Option (List V)) (call : FuncId → List V → Option R) (run : Nat → FuncId → List V → Option (Bool × YL)) : Nat → Code → XS → (Exit → XS → Option YL) → Option YL
  | 0, _, _, _ => none
  | n + 1, c, X, k => match c with
    | .skip => k .normal X
    | .region _ ops false => (regY1 P Γ call ops ops.toList X).bind fun q => if sameY q.2.2.y X.y = true then (match q.2.1 with
      | none => k .normal q.2.2
      | some (o, l2) => (gyE ops q.2.2.vs o).bind fun go => match go with
        | none => (q.2.2.apply o.dst noEff).bind fun X3 => (regE P Γ call ops l2 [] X3).bind fun qt => if sameY qt.2.y q.2.2.y = true then k .normal qt.2 else none
        | some o => (ycallE Γ q.2.2.vs o).bind fun yc => match q.2.2.y, yc.1 with
          | .cnt i, .y l vs => yieldE P Γ call ops o l2 q.2.2 yc.2 false (i + 1) (k .normal) [(l, vs)]
          | .cnt i, .f g args => (run i g args).bind fun z => yieldE P Γ call ops o l2 q.2.2 yc.2 z.1 (i + z.2.length) (k .normal) z.2
          | _, _ => none) else none
    | .region _ ops true => (regE P Γ call ops ops.toList [] X).bind fun q => if indepOk ops q.1.reverse = true ∧ sameY q.2.y X.y = true then k .normal q.2 else none
    | .seq x y => exY P Γ call run n x X fun e X1 => match e with
      | .normal => exY P Γ call run n y X1 k
      | e => k e X1
    | .cond c x y => match X.vs.ev Γ c with
      | .p (.b true) => exY P Γ call run n x X k
      | .p (.b false) => exY P Γ call run n y X k
      | _ => none
    | .block id c => exY P Γ call run n c X fun e X1 => match e with
      | .exit id' => k (if id' = id then .normal else .exit id') X1
      | e => k e X1
    | .loop c => exY P Γ call run n c X fun e X1 => match e with
      | .normal => (X1.gcS (dom X.gs)).bind fun X2 => if sameY X2.y X1.y = true then exY P Γ call run n (.loop c) X2 k else none
      | e => k e X1
    | .exit id => k (.exit id) X
    | .ret => k .ret X
    | _ => none

/-- What is still to come. -/
def Yr (l i0 : Nat) (ys : List (List V)) (X : XS) (r : YL) : Prop := (∃ j, X.y = .cnt (i0 + j) ∧ j ≤ ys.length ∧ r = (ys.drop j).map fun z => (l, z)) ∨ (X.y = .stop ∧ r = [])
theorem Yr.same {l i0 : Nat} {ys : List (List V)} {X X' : XS} {r : YL} (h : Yr l i0 ys X r) (e : sameY X'.y X.y = true) : Yr l i0 ys X' r := by
  unfold Yr at h ⊢
  rw [sameY_eq e]; exact h
theorem Yr.cnt {l i0 i : Nat} {ys : List (List V)} {X : XS} {zs r2 : YL} (h : Yr l i0 ys X (zs ++ r2)) (hi : X.y = .cnt i) : ∃ j, i = i0 + j ∧ j + zs.length ≤ ys.length ∧ zs = ((ys.drop j).take zs.length).map (fun z => (l, z)) ∧ r2 = (ys.drop (j + zs.length)).map fun z => (l, z) := by
  rcases h with ⟨j, h1, h2, h3⟩ | ⟨h1, _⟩
  · rw [hi] at h1
    cases h1
    have hl := congrArg List.length h3
    simp only [List.length_append, List.length_map, List.length_drop] at hl
    refine ⟨j, rfl, by omega, ?_, ?_⟩
    · have := congrArg (List.take zs.length) h3
      rw [List.take_left, ← List.map_take] at this
      exact this
    · have := congrArg (List.drop zs.length) h3
      rw [List.drop_left, ← List.map_drop, List.drop_drop] at this
      exact this
  · rw [hi] at h1; cases h1

theorem exY_ok {call : FuncId → List V → Option R} {run : Nat → FuncId → List V → Option (Bool × YL)} {l i0 : Nat} {ys : List (List V)} {Yp : Nat → Nat → List V → Prop} (hc : ∀ f args r, call f args = some r → Spec P Γ f args r)
    (hr : ∀ i g args u (zs : List (List V)), run i g args = some (u, zs.map fun z => (l, z)) → SpecYl P Γ u l i g args zs) (hY : ∀ k z, ys[k]? = some z → Yp l (i0 + k) z) : ∀ {n : Nat} {c : Code} {X : XS} {k : Exit → XS → Option YL} {r : YL}, exY P Γ call run n c X k = some r → Yr l i0 ys X r → ∀ {Q : Exit → VS → Prop}, (∀ e X' r', k e X' = some r' → Yr l i0 ys X' r' → Q e X'.vs) → vcode P Γ (Spec P Γ) Yp c Q X.vs
  | 0, c, X, k, r, h, _, _, _ => by cases h
  | n + 1, c, X, k, r, h, hyr, Q, hQ => by
    cases c with
    | skip => exact hQ _ _ _ h hyr
    | region id ops d =>
      cases d with
      | true =>
        simp only [exY] at h
        obtain ⟨q, hq, h⟩ := Option.bind_eq_some_iff.1 h
        split at h
        · rename_i hs
          exact (regE_ok (K := Q .normal) hc (tr' := q.1) (X' := q.2) hq (hQ _ _ _ h (hyr.same hs.2))).2 hs.1
        · cases h
      | false =>
        simp only [exY] at h
        obtain ⟨q, hq, h⟩ := Option.bind_eq_some_iff.1 h
        obtain ⟨l1, ro, X1⟩ := q
        obtain ⟨hv, hl⟩ := regY1uok hc hq
        simp only at h hv hl
        split at h
        · rename_i hs
          have hyr1 := hyr.same hs
          cases ro with
          | none =>
            refine .inl ?_
            rw [hl, restY, List.append_nil]
            exact hv _ (hQ _ _ _ h hyr1)
          | some p =>
            obtain ⟨o, l2⟩ := p
            refine .inr ⟨l1, o, l2, hl, hv _ ?_⟩
            simp only at h
            obtain ⟨go, hgo, h⟩ := Option.bind_eq_some_iff.1 h
            cases go with
            | none =>
              simp only at h
              obtain ⟨X3, hx, h⟩ := Option.bind_eq_some_iff.1 h
              obtain ⟨qt, hqt, h⟩ := Option.bind_eq_some_iff.1 h
              split at h
              · rename_i hs2
                refine gy_skip hgo ?_
                rw [← apply_vs hx]
                exact (regE_ok (K := Q .normal) hc (tr' := qt.1) (X' := qt.2) hqt (hQ _ _ _ h (hyr1.same hs2))).1
              · cases h
            | some o1 =>
              simp only at h
              obtain ⟨⟨yc, fz⟩, hyc, h⟩ := Option.bind_eq_some_iff.1 h
              simp only at h
              split at h
              · rename_i i l' vs hi
                obtain ⟨r2, Xt, Xf, rfl, k1, k2, k3, k4, k5⟩ := yieldE_ok hc h
                obtain ⟨j, rfl, h2, h3, h4⟩ := hyr1.cnt hi
                simp only [List.length_cons, List.length_nil, Nat.zero_add] at h2 h3 h4
                have hlt : j < ys.length := by omega
                rw [List.drop_eq_getElem_cons hlt] at h3
                simp only [List.take_succ_cons, List.take_zero, List.map_cons, List.map_nil, List.cons.injEq, Prod.mk.injEq, and_true] at h3
                obtain ⟨rfl, rfl⟩ := h3
                refine gy_go hgo <| ycall_y hyc hi (hY j _ (List.getElem?_eq_getElem hlt)) ((k5 _).1 (hQ _ _ _ k1 (.inl ⟨j + 1, by rw [k3, Nat.add_assoc], h2, h4⟩))) ((k5 _).2 (hQ _ _ _ k2 (.inr ⟨k4, rfl⟩)))
              · rename_i i g args hi
                obtain ⟨⟨u, zs⟩, hz, h⟩ := Option.bind_eq_some_iff.1 h
                obtain ⟨r2, Xt, Xf, rfl, k1, k2, k3, k4, k5⟩ := yieldE_ok hc h
                obtain ⟨j, rfl, h2, h3, h4⟩ := hyr1.cnt hi
                simp only at h2 h3 h4 k3 k5
                have hlen : ((ys.drop j).take zs.length).length = zs.length := by simp; omega
                refine gy_go hgo <| ycall_f hyc hi (hr _ _ _ u ((ys.drop j).take zs.length) (by rw [hz]; exact congrArg some (congrArg (Prod.mk u) h3))) (fun k z hk => ?_) ?_ ?_
                · have hkl : k < zs.length := by have := (List.getElem?_eq_some_iff.1 hk).1; omega
                  rw [List.getElem?_take_of_lt hkl, List.getElem?_drop] at hk
                  rw [Nat.add_assoc]; exact hY _ _ hk
                · rw [hlen]
                  exact (k5 _).1 (hQ _ _ _ k1 (.inl ⟨j + zs.length, by rw [k3, Nat.add_assoc], h2, h4⟩))
                · exact (k5 _).2 (hQ _ _ _ k2 (.inr ⟨k4, rfl⟩))
              · cases h
        · cases h
    | seq x y =>
      simp only [exY] at h
      refine exY_ok hc hr hY h hyr (Q := thenV (fun σ => vsay (vcode P Γ (Spec P Γ) Yp y Q) σ) Q) fun e X' r' hk hy' => ?_
      cases e with
      | normal => exact .inl (exY_ok hc hr hY hk hy' hQ)
      | _ => exact hQ _ _ _ hk hy'
    | cond c x y =>
      simp only [exY] at h
      show vbool _ _ _
      split at h
      · rename_i hx; rw [hx]; exact ⟨fun _ => exY_ok hc hr hY h hyr hQ, fun h => (by cases h)⟩
      · rename_i hx; rw [hx]; exact ⟨fun h => (by cases h), fun _ => exY_ok hc hr hY h hyr hQ⟩
      · cases h
    | block id c =>
      simp only [exY] at h
      refine exY_ok hc hr hY h hyr (Q := blockV id Q) fun e X' r' hk hy' => ?_
      cases e with
      | exit id' =>
        simp only at hk
        show if id' = id then _ else _
        split
        · rename_i he; rw [if_pos he] at hk; exact hQ _ _ _ hk hy'
        · rename_i he; rw [if_neg he] at hk; exact hQ _ _ _ hk hy'
      | _ => exact hQ _ _ _ hk hy'
    | loop c =>
      refine ⟨fun m σ' => m ≤ n + 1 ∧ ∃ X1 r1, σ' = X1.vs ∧ exY P Γ call run m (.loop c) X1 k = some r1 ∧ Yr l i0 ys X1 r1, n + 1, X.vs, .inl rfl, ⟨Nat.le_refl _, X, r, rfl, h, hyr⟩, ?_⟩
      rintro m σ' ⟨hm, X1, r1, rfl, h1, hy1⟩
      cases m with
      | zero => cases h1
      | succ m =>
        simp only [exY] at h1
        have hm' : m ≤ n := by omega
        refine exY_ok hc hr hY h1 hy1 (Q := thenV _ Q) fun e X' r' hk hy' => ?_
        cases e with
        | normal =>
          simp only at hk
          obtain ⟨X3, hg, hk⟩ := Option.bind_eq_some_iff.1 hk
          split at hk
          · rename_i hs
            exact ⟨m, X3.vs, .inr (gcS_wk hg), ⟨by omega, X3, r', rfl, hk, hy'.same hs⟩, by omega⟩
          · cases hk
        | _ => exact hQ _ _ _ hk hy'
    | exit id => exact hQ _ _ _ h hyr
    | ret => exact hQ _ _ _ h hyr
    | _ => cases h
termination_by n => n

/-! Functions. -/
def callE (P : Program) (Γ : Nat → Option (List V)) (orc : FuncId → List V → Option R) (itr : FuncId → List V → List V → Option (List (List V))) (fuel d : Nat) (f : FuncId) (args : List V) : Option R := match orc f args with
  | some r => some r
  | none => fnE P Γ orc itr fuel d f args
theorem callE_ok {orc : FuncId → List V → Option R} {itr : FuncId → List V → List V → Option (List (List V))} (hm : P.follows .mixedOrders = true) (ho : ∀ f args r, orc f args = some r → Spec P Γ f args r) (hi : ∀ f first caps ys, itr f first caps = some ys → SpecI2 P Γ f first caps ys) {fuel d : Nat} (f : FuncId) (args : List V) (r : R) (h : callE P Γ orc itr fuel d f args = some r) : Spec P Γ f args r := by
  unfold callE at h
  split at h
  · rename_i r' hr; cases h; exact ho _ _ _ hr
  · exact fnE_ok hm ho hi h
def leaves : Exit → Bool
  | .normal => true
  | .ret => true
  | _ => false
theorem leaves_eq {e : Exit} (h : leaves e = true) : e = .normal ∨ e = .ret := by cases e <;> simp [leaves] at h ⊢
def endY (P : Program) (u : Bool) (rs : List ResultVar) (e : Exit) (X : XS) : Option YL :=
  if leaves e = true then (resE P X.vs rs).bind fun ls => match u, ls, X.y with
    | true, [], .cnt _ => some []
    | true, [], .stop => some []
    | false, [.p (.b true)], .cnt _ => some []
    | false, [.p (.b false)], .stop => some []
    | _, _, _ => none
  else none
def startX (args : List V) (i : Nat) : XS := { initX args with y := .cnt i }
theorem startX_vs {args : List V} {i : Nat} (h : args.length ≤ 1000) : (startX args i).vs = VS.of (argsG 0 args) [(.y, .cnt i)] :=
  VS.same (fun t => argsT_get (by omega)) fun k => by cases k <;> rfl
theorem Yr.fin {l i0 : Nat} {ys : List (List V)} {X : XS} (h : Yr l i0 ys X []) : X.vs.mem .y = .cnt (i0 + ys.length) ∨ X.vs.mem .y = .stop := by
  rcases h with ⟨j, h1, h2, h3⟩ | ⟨h1, _⟩
  · have := congrArg List.length h3
    simp only [List.length_nil, List.length_map, List.length_drop] at this
    rw [show ys.length = j by omega]
    exact .inl h1
  · exact .inr h1
theorem endY_ok {l i0 : Nat} {ys : List (List V)} {u : Bool} {rs : List ResultVar} {e : Exit} {X : XS} {r : YL} (h : endY P u rs e X = some r) (hy : Yr l i0 ys X r) : yexit P u rs (i0 + ys.length) e X.vs := by
  unfold endY at h
  split at h
  · rename_i he
    have he := leaves_eq he
    obtain ⟨ls, hr, h⟩ := Option.bind_eq_some_iff.1 h
    have key : vretY P u rs (i0 + ys.length) X.vs := by
      refine resE_ok (C := fun ls => (ls = yresS u true ∧ X.vs.mem .y = .cnt (i0 + ys.length)) ∨ (ls = yresS u false ∧ X.vs.mem .y = .stop)) hr ?_
      generalize hm : X.y = m at h
      have hv : X.vs.mem .y = m := hm
      split at h
      · cases h
        rcases hy.fin with h | h
        · exact .inl ⟨rfl, h⟩
        · rw [hv] at h; cases h
      · exact .inr ⟨rfl, hv⟩
      · cases h
        rcases hy.fin with h | h
        · exact .inl ⟨rfl, h⟩
        · rw [hv] at h; cases h
      · exact .inr ⟨rfl, hv⟩
      · cases h
    rcases he with rfl | rfl <;> exact key
  · cases h
def runY (P : Program) (Γ : Nat → Option (List V)) (orc : FuncId → List V → Option R) (itr : FuncId → List V → List V → Option (List (List V))) (fuel : Nat) : Nat → Nat → FuncId → List V → Option (Bool × YL)
  | 0, _, _, _ => none
  | d + 1, i, f, args => match P.funcs[f]? with
    | some fn => match fn.body with
      | some c => if fn.name ≠ "runtime.NumGoroutine" ∧ args.length ≤ fn.ntmps ∧ args.length ≤ 1000 ∧ codeDsts fn.ntmps c = true then
          (exY P Γ (callE P Γ orc itr fuel d) (runY P Γ orc itr fuel d) fuel c (startX args i) (endY P fn.results.toList.isEmpty fn.results.toList)).map fun zs => (fn.results.toList.isEmpty, zs) else none
      | none => none
    | none => none
theorem runY_ok {orc : FuncId → List V → Option R} {itr : FuncId → List V → List V → Option (List (List V))} (hm : P.follows .mixedOrders = true) (ho : ∀ f args r, orc f args = some r → Spec P Γ f args r) (hi : ∀ f first caps ys, itr f first caps = some ys → SpecI2 P Γ f first caps ys) {fuel l : Nat} : ∀ {d i : Nat} {f : FuncId} {args : List V} {u : Bool} {zs : List (List V)}, runY P Γ orc itr fuel d i f args = some (u, zs.map fun z => (l, z)) → SpecYl P Γ u l i f args zs
  | 0, _, _, _, _, _, h => by cases h
  | d + 1, i, f, args, u, zs, h => by
    simp only [runY] at h
    cases hf : P.funcs[f]? with
    | none => rw [hf] at h; cases h
    | some fn =>
      rw [hf] at h
      simp only at h
      cases hb : fn.body with
      | none => rw [hb] at h; cases h
      | some c =>
        rw [hb] at h
        simp only at h
        split at h
        · rename_i hc
          obtain ⟨h1, h2, h3, h4⟩ := hc
          obtain ⟨zl, hz, he⟩ := Option.map_eq_some_iff.1 h
          simp only [Prod.mk.injEq] at he
          obtain ⟨rfl, rfl⟩ := he
          refine specYl_of hm (fun _ _ _ h => h) hf h1 hb (rs := fn.results.toList) (by simp) rfl h2 h4 fun Yp hYp => ?_
          rw [← startX_vs h3]
          exact exY_ok (callE_ok hm ho hi) (fun i g args u zs h => runY_ok hm ho hi h) hYp hz (.inl ⟨0, rfl, Nat.zero_le _, rfl⟩) fun e X' r' hk hy => endY_ok hk hy
        · cases h

def endI (e : Exit) (_ : XS) : Option YL := match e with
  | .normal => some []
  | .ret => some []
  | _ => none
/-- What an iterator hands over, of loop l. -/
def itrE (P : Program) (Γ : Nat → Option (List V)) (orc : FuncId → List V → Option R) (itr : FuncId → List V → List V → Option (List (List V))) (fuel d : Nat) (f : FuncId) (first caps : List V) (l : Nat) : Option YL :=
  match P.funcs[f]? with
  | some fn => match fn.body with
    | some c => if fn.name ≠ "runtime.NumGoroutine" ∧ fn.results.toList.isEmpty = true ∧ first.length + (caps.length + 1) ≤ fn.ntmps ∧ first.length + (caps.length + 1) ≤ 1000 ∧ codeDsts fn.ntmps c = true then
        exY P Γ (callE P Γ orc itr fuel d) (runY P Γ orc itr fuel d) fuel c (startX (first ++ .yld l :: caps) 0) endI else none
    | none => none
  | none => none
theorem itrE_ok {orc : FuncId → List V → Option R} {itr : FuncId → List V → List V → Option (List (List V))} (hm : P.follows .mixedOrders = true) (ho : ∀ f args r, orc f args = some r → Spec P Γ f args r) (hi : ∀ f first caps ys, itr f first caps = some ys → SpecI2 P Γ f first caps ys) {fuel d : Nat} {f : FuncId} {first caps : List V} {ys : List (List V)} (h : ∀ l, itrE P Γ orc itr fuel d f first caps l = some (ys.map fun z => (l, z))) : SpecI2 P Γ f first caps ys := by
  have h0 := h 0
  unfold itrE at h0
  cases hf : P.funcs[f]? with
  | none => rw [hf] at h0; cases h0
  | some fn =>
    rw [hf] at h0
    simp only at h0
    cases hb : fn.body with
    | none => rw [hb] at h0; cases h0
    | some c =>
      rw [hb] at h0
      simp only at h0
      split at h0
      · rename_i hc
        obtain ⟨h1, h2, h3, h4, h5⟩ := hc
        refine specI2uof hm (fun _ _ _ h => h) hf h1 hb (by simpa using h2) rfl h3 h5 fun l => ?_
        have hl := h l
        unfold itrE at hl
        rw [hf] at hl
        simp only at hl
        rw [hb] at hl
        simp only at hl
        rw [if_pos ⟨h1, h2, h3, h4, h5⟩] at hl
        rw [← startX_vs (by simpa using h4)]
        refine exY_ok (i0 := 0) (callE_ok hm ho hi) (fun i g args u zs h => runY_ok hm ho hi h) (fun k z hk => ⟨rfl, by rw [Nat.zero_add]; exact hk⟩) hl (.inl ⟨0, rfl, Nat.zero_le _, rfl⟩) fun e X' r' hk hy => ?_
        cases e with
        | normal => cases hk; have := hy.fin; rw [Nat.zero_add] at this; exact this
        | ret => cases hk; have := hy.fin; rw [Nat.zero_add] at this; exact this
        | _ => cases hk
      · cases h0

/-! A table of iterators. -/
mutual
def V.eqb : V → V → Bool
  | V.b x, V.b y => x == y
  | .i k n, .i k' m => decide (k = k') && decide (n = m)
  | .sl xs, .sl ys => V.eqbs xs ys
  | .agg xs, .agg ys => V.eqbs xs ys
  | .ref xs, .ref ys => V.eqbs xs ys
  | .fn f a c, .fn g a' c' => decide (f = g) && V.eqbs a a' && V.eqbs c c'
  | .s x, .s y => x.data.toList == y.data.toList
  | .nilFn, .nilFn => true
  | .nilPtr, .nilPtr => true
  | .nilI, .nilI => true
  | _, _ => false
def V.eqbs : List V → List V → Bool
  | [], [] => true
  | x :: xs, y :: ys => V.eqb x y && V.eqbs xs ys
  | _, _ => false
end
mutual
theorem V.eqb_eq : ∀ (x y : V), V.eqb x y = true → x = y
  | .b x, y, h => by cases y <;> simp [V.eqb] at h; rw [h]
  | .i k n, y, h => by
    cases y <;> simp [V.eqb] at h
    rw [h.1, h.2]
  | .sl xs, y, h => by
    cases y <;> simp only [V.eqb, Bool.false_eq_true] at h
    rw [V.eqbs_eq _ _ h]
  | .agg xs, y, h => by
    cases y <;> simp only [V.eqb, Bool.false_eq_true] at h
    rw [V.eqbs_eq _ _ h]
  | .ref xs, y, h => by
    cases y <;> simp only [V.eqb, Bool.false_eq_true] at h
    rw [V.eqbs_eq _ _ h]
  | .fn f a c, y, h => by
    cases y <;> simp only [V.eqb, Bool.false_eq_true, Bool.and_eq_true, decide_eq_true_eq] at h
    obtain ⟨⟨h1, h2⟩, h3⟩ := h
    rw [h1, V.eqbs_eq _ _ h2, V.eqbs_eq _ _ h3]
  | .nilFn, y, h => by cases y <;> simp [V.eqb] at h ⊢
  | .nilPtr, y, h => by cases y <;> simp [V.eqb] at h ⊢
  | .nilI, y, h => by cases y <;> simp [V.eqb] at h ⊢
  | .s x, y, h => by
    cases y <;> simp only [V.eqb, Bool.false_eq_true] at h
    rename_i y
    rw [ByteArray.ext (Array.toList_inj.1 (eq_of_beq h))]
  | .yld _, y, h => by cases y <;> simp [V.eqb] at h
  | .ifc _ _, y, h => by cases y <;> simp [V.eqb] at h
theorem V.eqbs_eq : ∀ (xs ys : List V), V.eqbs xs ys = true → xs = ys
  | [], ys, h => by cases ys <;> simp [V.eqbs] at h ⊢
  | x :: xs, ys, h => by
    cases ys with
    | nil => simp [V.eqbs] at h
    | cons y ys =>
      simp only [V.eqbs, Bool.and_eq_true] at h
      rw [V.eqb_eq _ _ h.1, V.eqbs_eq _ _ h.2]
end
def itrT : List (FuncId × (List V × List V) × List (List V)) → FuncId → List V → List V → Option (List (List V))
  | [], _, _, _ => none
  | e :: r, f, first, caps => if f = e.1 ∧ V.eqbs first e.2.1.1 = true ∧ V.eqbs caps e.2.1.2 = true then some e.2.2 else itrT r f first caps
theorem itrT_ok : ∀ {tbl : List (FuncId × (List V × List V) × List (List V))}, (∀ e ∈ tbl, SpecI2 P Γ e.1 e.2.1.1 e.2.1.2 e.2.2) → ∀ f first caps ys, itrT tbl f first caps = some ys → SpecI2 P Γ f first caps ys
  | [], _, f, first, caps, ys, h => by cases h
  | e :: r, ht, f, first, caps, ys, h => by
    simp only [itrT] at h
    split at h
    · rename_i hc
      cases h
      rw [hc.1, V.eqbs_eq _ _ hc.2.1, V.eqbs_eq _ _ hc.2.2]
      exact ht e (by simp)
    · exact itrT_ok (fun e he => ht e (List.mem_cons_of_mem _ he)) f first caps ys h
/-- Answers out of a table. -/
def orcT : List (FuncId × List V × R) → FuncId → List V → Option R
  | [], _, _ => none
  | e :: r, f, args => if f = e.1 ∧ V.eqbs args e.2.1 = true then some e.2.2 else orcT r f args
theorem orcT_ok {Sp : FuncId → List V → R → Prop} : ∀ {tbl : List (FuncId × List V × R)}, (∀ e ∈ tbl, Sp e.1 e.2.1 e.2.2) → ∀ f args r, orcT tbl f args = some r → Sp f args r
  | [], _, f, args, r, h => by cases h
  | e :: t, ht, f, args, r, h => by
    simp only [orcT] at h
    split at h
    · rename_i hc
      cases h
      rw [hc.1, V.eqbs_eq _ _ hc.2]
      exact ht e (by simp)
    · exact orcT_ok (fun e he => ht e (List.mem_cons_of_mem _ he)) f args r h
end Go.Vm

/- A contract that is found where the flag of windows is set holds without the flag. -/
namespace Go.Vm
def winΓ (Γ : Nat → Option (List V)) : Nat → Option (List V) := fun g => if g = 1000000 then some [] else Γ g
theorem winΓ_some {Γ : Nat → Option (List V)} {St : Nat → Nat → Prop} {w : World} (h : ∀ g cs, Γ g = some cs → repA St (rdW w) cs g 0) : ∀ g cs, winΓ Γ g = some cs → repA St (rdW w) cs g 0 := by
  intro g cs hg
  unfold winΓ at hg
  split at hg
  · cases hg; simp only [repA]
  · exact h g cs hg
theorem spec_win {P : Program} {Γ : Nat → Option (List V)} {f : FuncId} {args : List V} {r : R} (hs : Spec P (winΓ Γ) f args r) : Spec P Γ f args r :=
  ⟨hs.1, fun St w vs h1 h2 h3 => hs.2.1 St w vs h1 (winΓ_some h2) h3, fun pre e es xs post a b c St w v1 v2 u h1 h2 => hs.2.2.1 pre e es xs post a b c St w v1 v2 u h1 (winΓ_some h2), fun pre post a b c St w v1 v2 h1 h2 => hs.2.2.2 pre post a b c St w v1 v2 h1 (winΓ_some h2)⟩
end Go.Vm

/- Calls that are handed nil as their first argument; the capacity of nil; own arrays cut to nothing: rules for a walk. -/
namespace Go.Vm
variable {Γ : Nat → Option (List V)} {P : Program} {Sp : FuncId → List V → R → Prop} {σ : VS}
theorem call_vn {K : Eff → Prop} {d g : Nat} {vs as : List V} {post : List L} {q : R} {l : L} {wr : List (Key × M)} {rd : List Key} {fz : List Nat} (hs : Sp g as q) (hq : pubWith (pub1 σ) post = some ⟨vs, rd, fz⟩) (ho : noOwn vs = true) (hvs : nilV :: vs = as) (hL : q.toL d = (l, wr)) (hfr : sitesOk σ fz wr = true) (hK : K ⟨l, sitesRd wr ++ rd, wr ++ frzs fz⟩) : vcallF Sp σ (some d) (.p (.fn g [] [])) (.nilS :: post) K := by
  refine .inr (.inr ⟨[], post, rfl, ?_⟩)
  have hp : pubWith (pub1 σ) [] = some ⟨[], [], []⟩ := rfl
  simp only [hp, hq, wantO_some, need, List.nil_append]
  subst hvs
  exact ⟨⟨rfl, ho⟩, _, hs, by rw [hL]; exact hfr, by rw [hL]; exact hK⟩
variable {K : VS → Prop} {ops : Array Oper} {r : List Oper} {tr : List Tr} {t0 : TypeId} {p : String} {af : Array Edge}
theorem s_calln {d g : Nat} {f : Operand} {args : List Operand} {ats : Array TypeId} {vs as : List V} {post : List L} {q : R} {l : L} {wr : List (Key × M)} {rd : List Key} {fz : List Nat} (hs : Sp g as q) (hf : σ.ev Γ f = .p (.fn g [] [])) (ha : args.map (σ.ev Γ) = .nilS :: post) (hq : pubWith (pub1 σ) post = some ⟨vs, rd, fz⟩) (ho : noOwn vs = true) (hvs : nilV :: vs = as) (hL : q.toL d = (l, wr)) (hfr : sitesOk σ fz wr = true) (hK : vops P Γ Sp ops r (σ.apply (some d) (⟨l, sitesRd wr ++ rd, wr ++ frzs fz⟩ : Eff)) K) : vops P Γ Sp ops (⟨some d, .call ⟨.value f, args.toArray, ats⟩, t0, p, af, none⟩ :: r) σ K := by
  rw [vops_cons, vop_call, hf, ha]
  exact call_vn hs hq ho hvs hL hfr hK
theorem s_cap {d : Option Nat} {x : Operand} {t : TypeId} : vops P Γ Sp ops (⟨d, (.call ⟨.builtin .cap, [x].toArray, [t].toArray⟩), t0, p, af, none⟩ :: r) σ K = need ((elq P t).isSome = true ∧ (match σ.ev Γ x with | .nilS => True | _ => False)) (vops P Γ Sp ops r (σ.apply d ⟨.p (.n 0), [], []⟩) K) := Eq.trans rfl rfl
theorem winM_t : winM (winΓ Γ) = true := Eq.trans rfl rfl
theorem vsl_t {t : TypeId} {x : L} {lo hi mx : Option L} {K : Eff → Prop} : vsl true P σ t x lo hi mx K = vsliceW P σ t x lo hi mx K := Eq.trans rfl rfl
theorem fil_0 : isFil (some (.p (.i .i64 0))) = true := Eq.trans rfl rfl
/-- Nothing is an array of no elements. -/
theorem spec_nil_arr {f : FuncId} {post : List V} {e : TypeId} {es : Nat} (h0 : 0 < es) (h : Spec P Γ f (nilV :: post) (.one (.c .nilS))) : Spec P Γ f (nilV :: post) (.one (.c (.arr e es []))) := by
  refine ⟨h.1, fun St w vs _ _ hT => (repT_nilV (pre := []) hT).elim, fun pre' e' es' xs' post' ha k1 k2 => ?_, fun pre post' ha k1 k2 St w v1 v2 h1 h2 h3 h4 => ?_⟩
  · obtain ⟨_, ho, _⟩ : True ∧ False ∧ True := by
      cases pre' with
      | nil => simp [oV, nilV] at ha
      | cons x p =>
        simp only [List.cons_append, List.cons.injEq] at ha
        rw [← ha.1] at k1; simp [noOwn, nilV, V.isO] at k1
    exact ho.elim
  · refine (h.2.2.2 pre post' ha k1 k2 St w v1 v2 h1 h2 h3 h4).mono ?_
    rintro en w' ⟨v, St', bl, he, m1, m2, m3, m4, m5, m6⟩
    refine ⟨v, St', bl, he, m1, m2, m3, m4, m5, ?_⟩
    simp only [repR, repR1, repRC] at m6 ⊢
    obtain ⟨rfl, rfl⟩ := m6
    exact ⟨h0, ⟨[], ownsRow_nil _ _ _, repEs_nil⟩, rfl, fun b hb => by cases hb⟩
end Go.Vm

/- From a contract of the kit's shelf ('Calls' with a returned value, in a world that is as it was below its end) to a contract of the value machine. For functions on strings. -/
namespace Go.Vm
variable {P : Program} {Γ : Nat → Option (List V)} {f : FuncId} {args : List V} {r : R}
/-- What a call gets to know: the world's package variables, and what its arguments read as. -/
structure Met (Γ : Nat → Option (List V)) (args : List V) (St : Nat → Nat → Prop) (w : World) (vs : List Value) : Prop where
  bound : ∀ b o, St b o → b < w.heap.size
  glob : ∀ g cs, Γ g = some cs → repA St (rdW w) cs g 0
  args : repT St (rdW w) args vs
/-- Results that hold nothing in memory. -/
theorem spec_ret (v : Value) (he : Enters P f) (hno : noOwn args = true) (hr : ∀ (St : Nat → Nat → Prop) (w : World) (B : Nat), repR St w B r v [])
    (h : ∀ St w vs, Met Γ args St w vs → Calls P f vs.toArray w fun e w' => e = .returned v ∧ RowKit.Below w.heap.size w w') : Spec P Γ f args r := by
  refine spec_pure hno he ?_
  intro St w vs h1 h2 h3
  refine (h St w vs ⟨h1, h2, h3⟩).mono fun e w' ⟨he, hb⟩ => ?_
  exact ⟨v, St, [], he, hb, fun _ _ h => h, fun _ _ h => .inl h, fun b o hs => Nat.lt_of_lt_of_le (h1 b o hs) hb.size, List.nodup_nil, hr _ _ _⟩
theorem met_i {St : Nat → Nat → Prop} {rd : Nat → Nat → Option Value} {k : IntKind} {n : Int} {xs : List V} {l : List Value} (h : repT St rd (.i k n :: xs) l) : ∃ r, l = .int k n :: r ∧ repT St rd xs r := by
  simp only [repT, repC] at h
  obtain ⟨v, r, rfl, ⟨h1, h2⟩, h3⟩ := h
  refine ⟨r, ?_, h3⟩
  cases v <;> simp_all [Value.cells, Value.isAgg, V.isAgg]
theorem met_nil {St : Nat → Nat → Prop} {rd : Nat → Nat → Option Value} {l : List Value} (h : repT St rd [] l) : l = [] := by simpa only [repT] using h
end Go.Vm
