import Derived.Test.YtmebdgliiickfaaVmY
set_option linter.all false
/- Results, calls: the rules. -/
namespace Go.Vm
variable {Γ : Nat → Option (List V)} {P : Program} {Sp : FuncId → List V → R → Prop} {σ : VS} {K : Eff → Prop}
theorem rOf_one {x : V} : rOf [x] = R.v x := Eq.trans rfl rfl
theorem rOf_two {x y : V} : rOf [x, y] = R.v2 x y := Eq.trans rfl rfl
theorem rOf_three {x y z : V} : rOf [x, y, z] = R.v3 x y z := Eq.trans rfl rfl
theorem pubWith_nil' {f : L → Option Pub} : pubWith f [] = some ⟨[], [], []⟩ := Eq.trans rfl rfl
theorem pubWith_bind {f : L → Option Pub} {l : L} {r : List L} : pubWith f (l :: r) = (f l).bind fun q => (pubWith f r).map fun qs => ⟨q.v :: qs.vs, q.rd ++ qs.rd, q.fz ++ qs.fz⟩ := by
  simp only [pubWith]; cases f l <;> rfl
theorem pub1up {v : V} : pub1 σ (.p v) = some ⟨v, [], []⟩ := Eq.trans rfl rfl
theorem pub1unilS : pub1 σ .nilS = some ⟨.sl [], [], []⟩ := Eq.trans rfl rfl
theorem pub1ue0 : pub1 σ .e0 = some ⟨.sl [], [], []⟩ := Eq.trans rfl rfl
theorem pub1uarr {t g : Nat} : pub1 σ (.arr t g) = (curA σ t g).map fun x => ⟨.sl x.2, [.a t], [t]⟩ := Eq.trans rfl rfl
theorem curA_of {gs : List (Nat × L)} {ms : List (Key × M)} {t g : Nat} : curA (VS.of gs ms) t g = match look (.a t) .none ms with | .arr g' e es xs => if g = g' then some ((e, es), xs) else none | _ => none := Eq.trans rfl rfl
/-- A call that gives one value; two; three. -/
theorem call_v {d g : Nat} {first caps as vs : List V} {args : List L} {x : V} {rd : List Key} {fz : List Nat} (hs : Sp g as (R.v x)) (hq : pubWith (pub1 σ) args = some ⟨vs, rd, fz⟩) (hvs : first ++ vs ++ caps = as) (hK : K ⟨.p x, rd, frzs fz⟩) : vcallF Sp σ (some d) (.p (.fn g first caps)) args K := by
  simp only [vcallF, hq, wantO_some]
  subst hvs
  exact ⟨_, hs, by simp [R.toL, R1.toL, RC.toL], by simpa [R.toL, R1.toL, RC.toL] using hK⟩
theorem call_v2 {d g : Nat} {first caps as vs : List V} {args : List L} {x y : V} {rd : List Key} {fz : List Nat} (hs : Sp g as (R.v2 x y)) (hq : pubWith (pub1 σ) args = some ⟨vs, rd, fz⟩) (hvs : first ++ vs ++ caps = as) (hK : K ⟨.tup [.p x, .p y], rd, frzs fz⟩) : vcallF Sp σ (some d) (.p (.fn g first caps)) args K := by
  simp only [vcallF, hq, wantO_some]
  subst hvs
  exact ⟨_, hs, by simp [R.toL, r1sToL, R1.toL, RC.toL], by simpa [R.toL, r1sToL, R1.toL, RC.toL] using hK⟩
theorem call_v3 {d g : Nat} {first caps as vs : List V} {args : List L} {x y z : V} {rd : List Key} {fz : List Nat} (hs : Sp g as (R.v3 x y z)) (hq : pubWith (pub1 σ) args = some ⟨vs, rd, fz⟩) (hvs : first ++ vs ++ caps = as) (hK : K ⟨.tup [.p x, .p y, .p z], rd, frzs fz⟩) : vcallF Sp σ (some d) (.p (.fn g first caps)) args K := by
  simp only [vcallF, hq, wantO_some]
  subst hvs
  exact ⟨_, hs, by simp [R.toL, r1sToL, R1.toL, RC.toL], by simpa [R.toL, r1sToL, R1.toL, RC.toL] using hK⟩
/-! Memory, for values. -/
theorem vlen_sl {t : TypeId} {xs : List V} (h1 : arq P t = none) (h2 : (elq P t).isSome = true) : vlen σ P t (.p (.sl xs)) K = K ⟨.p (.i .i64 xs.length), [], []⟩ := by
  simp [vlen, h1, h2, lens, conts, need, wantO]
theorem vlen_nilS {t : TypeId} (h1 : arq P t = none) (h2 : (elq P t).isSome = true) : vlen σ P t .nilS K = K ⟨.p (.i .i64 0), [], []⟩ := by
  simp [vlen, h1, h2, lens, conts, need, wantO]
theorem vlen_arr {t : TypeId} {s g : Nat} (h1 : arq P t = none) (h2 : (elq P t).isSome = true) : vlen σ P t (.arr s g) K = wantO (curA σ s g) fun x => K ⟨.p (.i .i64 x.2.length), [.a s], []⟩ := by
  simp only [vlen, h1, h2, lens, conts, need]
  cases curA σ s g <;> simp [wantO]
theorem vlen_str {t : TypeId} {s : ByteArray} (h1 : arq P t = none) (h2 : isStr P t = true) : vlen σ P t (.p (.s s)) K = K ⟨.p (.i .i64 s.size), [], []⟩ := by
  simp [vlen, h1, h2, lens, need, wantO]
theorem vindexAddr_sl {t : TypeId} {xs : List V} {k : IntKind} {n : Int} : vindexAddr P σ t (.p (.sl xs)) (.p (.i k n)) K = wantO (elq P t) fun e => wantO (szq P e) fun es => atI xs n fun x => need (x.cells.length = es) (K ⟨.p (.ref x.cells), [], []⟩) := Eq.trans rfl rfl
theorem vindexAddr_arr {t : TypeId} {s g : Nat} {k : IntKind} {n : Int} : vindexAddr P σ t (.arr s g) (.p (.i k n)) K = wantO (elq P t) fun e => wantO (szq P e) fun es => wantO (curA σ s g) fun q => need (q.1.2 = es ∧ 0 ≤ n ∧ n < q.2.length) (K ⟨.ep s g n.toNat 0, [.a s], []⟩) := Eq.trans rfl rfl
theorem vload_ref1 {t : TypeId} {c : V} {r : List V} (h1 : szq P t = some 1) (h2 : agq P t = some false) : vload P σ t (.p (.ref (c :: r))) K = K ⟨.p c, [], []⟩ := by
  simp [vload, h1, h2, wantO, sub, unAggV]
theorem vload_refs {t : TypeId} {cs : List V} (h1 : szq P t = some cs.length) (h2 : agq P t = some true) : vload P σ t (.p (.ref cs)) K = K ⟨.p (.agg cs), [], []⟩ := by
  simp [vload, h1, h2, wantO, sub, unAggV]
theorem vload_own {t : TypeId} {s j : Nat} : vload P σ t (.own s j) K = wantO (szq P t) fun n => wantO (agq P t) fun ag => wantO (boxN σ s) fun m => need (j + n ≤ m) (wantO (cellsOf σ s j n) fun ls => wantO (unAgg ag ls) fun l => K ⟨l, .b s :: keysC s j n, []⟩) := Eq.trans rfl rfl
theorem vload_ep {t : TypeId} {s g i j : Nat} : vload P σ t (.ep s g i j) K = wantO (szq P t) fun n => wantO (agq P t) fun ag => wantO (curA σ s g) fun q => wantO (q.2[i]?) fun x => wantO (sub x.cells j n) fun cs => wantO (unAggV ag cs) fun v => K ⟨.p v, [.a s], []⟩ := Eq.trans rfl rfl
theorem vstore_own {t : TypeId} {s j : Nat} {x : L} : vstore P σ t (.own s j) x K = wantO (szq P t) fun n => wantO (boxN σ s) fun m => need (x.cells.length = n ∧ j + n ≤ m ∧ isNone (σ.mem (.f s)) = true ∧ x.cells.all L.isCell = true) (K ⟨.dead, [.b s, .f s], cellsW s j x.cells⟩) := Eq.trans rfl rfl
theorem vfieldAddr_own {t : TypeId} {s j f : Nat} : vfieldAddr P σ t (.own s j) f K = wantO (flq P t f) fun q => wantO (boxN σ s) fun m => need (j + q.2.1 + q.2.2 ≤ m) (K ⟨.own s (j + q.2.1), [.b s], []⟩) := Eq.trans rfl rfl
theorem vfieldAddr_ref {t : TypeId} {f : Nat} {cs : List V} : vfieldAddr P σ t (.p (.ref cs)) f K = wantO (flq P t f) fun q => K ⟨.p (.ref (cs.drop q.2.1)), [], []⟩ := Eq.trans rfl rfl
theorem look_nil {k : Key} {m : M} : look k m [] = m := Eq.trans rfl rfl
theorem isNone_none : isNone .none = true := Eq.trans rfl rfl
theorem isNone_box {n : Nat} : isNone (.box n) = false := Eq.trans rfl rfl
theorem isNone_cell {l : L} : isNone (.cell l) = false := Eq.trans rfl rfl
theorem isNone_frz : isNone .frz = false := Eq.trans rfl rfl
theorem isNone_arr {g es : Nat} {e : TypeId} {xs : List V} : isNone (.arr g e es xs) = false := Eq.trans rfl rfl
theorem boxN_of {gs : List (Nat × L)} {ms : List (Key × M)} {t : Nat} : boxN (VS.of gs ms) t = match look (.b t) .none ms with | .box n => some n | _ => none := Eq.trans rfl rfl
theorem cellsOf_zero {t j : Nat} : cellsOf σ t j 0 = some [] := Eq.trans rfl rfl
theorem cellsOf_of {gs : List (Nat × L)} {ms : List (Key × M)} {t j n : Nat} : cellsOf (VS.of gs ms) t j (n + 1) = match look (.c t j) .none ms with | .cell l => (cellsOf (VS.of gs ms) t (j + 1) n).map (l :: ·) | _ => none := by
  simp only [cellsOf, cellOf, of_mem]
  cases look (.c t j) .none ms <;> rfl

/-! Steps: what follows stands behind a variable. -/
variable {Q : Exit → VS → Prop}
theorem c_assoc {x y z : Code} (h : vcode P Γ Sp (.seq x (.seq y z)) Q σ) : vcode P Γ Sp (.seq (.seq x y) z) Q σ := by
  rw [vcode_seq, vcode_seq]
  rw [vcode_seq] at h
  refine vcode_mono x (fun e σ h => ?_) h
  cases e with
  | normal =>
    rcases h with h | ⟨τ, hw, h⟩
    · exact .inl h
    · exact .inr ⟨τ, hw, h⟩
  | _ => exact h
theorem c_reg {id : Nat} {l : List Oper} {y : Code} (h : ∀ K : VS → Prop, (∀ σ, vcode P Γ Sp y Q σ → K σ) → vops P Γ Sp l.toArray l σ K) : vcode P Γ Sp (.seq (.region id l.toArray false) y) Q σ := h _ fun _ h => .inl h
theorem c_draw {id : Nat} {l : List Oper} {y : Code} (h : ∀ K : VS → Prop, (∀ σ, vcode P Γ Sp y Q σ → K σ) → vopsD P Γ Sp l.toArray l [] σ K) : vcode P Γ Sp (.seq (.region id l.toArray true) y) Q σ := h _ fun _ h => .inl h
theorem c_reg1 {id : Nat} {l : List Oper} (h : ∀ K : VS → Prop, (∀ σ, Q .normal σ → K σ) → vops P Γ Sp l.toArray l σ K) : vcode P Γ Sp (.region id l.toArray false) Q σ := h _ fun _ h => h
theorem c_draw1 {id : Nat} {l : List Oper} (h : ∀ K : VS → Prop, (∀ σ, Q .normal σ → K σ) → vopsD P Γ Sp l.toArray l [] σ K) : vcode P Γ Sp (.region id l.toArray true) Q σ := h _ fun _ h => h
theorem c_if {c : Operand} {x y z : Code} (b : Bool) (hc : σ.ev Γ c = .p (.b b)) (h1 : b = true → vcode P Γ Sp (.seq x z) Q σ) (h2 : b = false → vcode P Γ Sp (.seq y z) Q σ) : vcode P Γ Sp (.seq (.cond c x y) z) Q σ := by
  rw [vcode_seq]
  exact vcode_if b hc h1 h2
theorem c_skip {z : Code} (h : vcode P Γ Sp z Q σ) : vcode P Γ Sp (.seq .skip z) Q σ := .inl h
theorem c_ret {z : Code} (h : Q .ret σ) : vcode P Γ Sp (.seq .ret z) Q σ := h
theorem c_exit {id : Nat} {z : Code} (h : Q (.exit id) σ) : vcode P Γ Sp (.seq (.exit id) z) Q σ := h
theorem c_block {id : Nat} {c z : Code} (h : vcode P Γ Sp c (blockV id (thenV (fun σ => vcode P Γ Sp z Q σ) Q)) σ) : vcode P Γ Sp (.seq (.block id c) z) Q σ := by
  rw [vcode_seq, vcode_block]
  refine vcode_mono c (fun e σ h => ?_) h
  cases e with
  | normal => exact .inl h
  | exit id' =>
    rw [blockV_e] at h ⊢
    by_cases he : id' = id
    · rw [if_pos he] at h ⊢; exact .inl h
    · rw [if_neg he] at h ⊢; exact h
  | _ => exact h
theorem c_loop {c z : Code} (h : vcode P Γ Sp (.loop c) (thenV (fun σ => vcode P Γ Sp z Q σ) Q) σ) : vcode P Γ Sp (.seq (.loop c) z) Q σ := by
  rw [vcode_seq]
  refine vcode_mono _ (fun e σ h => ?_) h
  cases e with
  | normal => exact .inl h
  | _ => exact h
def gdstL : List Oper → Nat → Option Tmp
  | [], _ => none
  | o :: _, 0 => o.dst
  | _ :: r, n + 1 => gdstL r n
theorem gdst_list {l : List Oper} {j : Nat} : gdst l.toArray j = gdstL l j := by
  unfold gdst
  rw [List.getElem?_toArray]
  induction l generalizing j with
  | nil => simp [gdstL]
  | cons o r ih =>
    cases j with
    | zero => simp [gdstL]
    | succ j => simpa [gdstL] using ih
theorem gdstL_zero {o : Oper} {r : List Oper} : gdstL (o :: r) 0 = o.dst := Eq.trans rfl rfl
theorem gdstL_succ {o : Oper} {r : List Oper} {n : Nat} : gdstL (o :: r) (n + 1) = gdstL r n := Eq.trans rfl rfl
theorem rng_0 : List.range 0 = [] := Eq.trans rfl rfl
theorem rng_1 : List.range 1 = [0] := Eq.trans rfl rfl
theorem rng_2 : List.range 2 = [0, 1] := Eq.trans rfl rfl
theorem rng_3 : List.range 3 = [0, 1, 2] := Eq.trans rfl rfl
theorem rng_4 : List.range 4 = [0, 1, 2, 3] := Eq.trans rfl rfl
theorem rng_5 : List.range 5 = [0, 1, 2, 3, 4] := Eq.trans rfl rfl
theorem rng_6 : List.range 6 = [0, 1, 2, 3, 4, 5] := Eq.trans rfl rfl
theorem rng_7 : List.range 7 = [0, 1, 2, 3, 4, 5, 6] := Eq.trans rfl rfl
theorem rng_8 : List.range 8 = [0, 1, 2, 3, 4, 5, 6, 7] := Eq.trans rfl rfl
theorem rng_9 : List.range 9 = [0, 1, 2, 3, 4, 5, 6, 7, 8] := Eq.trans rfl rfl
theorem rng_10 : List.range 10 = [0, 1, 2, 3, 4, 5, 6, 7, 8, 9] := Eq.trans rfl rfl
theorem rng_11 : List.range 11 = [0, 1, 2, 3, 4, 5, 6, 7, 8, 9, 10] := Eq.trans rfl rfl
theorem rng_12 : List.range 12 = [0, 1, 2, 3, 4, 5, 6, 7, 8, 9, 10, 11] := Eq.trans rfl rfl
theorem len_cons {x : V} {xs : List V} {es : Nat} : (∀ y ∈ x :: xs, y.cells.length = es) ↔ x.cells.length = es ∧ ∀ y ∈ xs, y.cells.length = es := List.forall_mem_cons
theorem len_nil {es : Nat} : (∀ y ∈ ([] : List V), y.cells.length = es) ↔ True := by simp
theorem vc_agg {cs : List V} : (V.agg cs).cells = cs := Eq.trans rfl rfl
theorem vc_b {b : Bool} : (V.b b).cells = [.b b] := Eq.trans rfl rfl
theorem vc_i {k : IntKind} {n : Int} : (V.i k n).cells = [.i k n] := Eq.trans rfl rfl
theorem vc_s {s : ByteArray} : (V.s s).cells = [.s s] := Eq.trans rfl rfl
theorem vc_sl {xs : List V} : (V.sl xs).cells = [.sl xs] := Eq.trans rfl rfl
theorem vc_fn {f : FuncId} {a b : List V} : (V.fn f a b).cells = [.fn f a b] := Eq.trans rfl rfl
theorem vc_ref {cs : List V} : (V.ref cs).cells = [.ref cs] := Eq.trans rfl rfl
theorem lc_p {v : V} : (L.p v).cells = v.cells.map .p := Eq.trans rfl rfl
theorem lc_agg {ls : List L} : (L.agg ls).cells = ls := Eq.trans rfl rfl
theorem lc_nilS : L.nilS.cells = [.nilS] := Eq.trans rfl rfl
theorem lc_e0 : L.e0.cells = [.e0] := Eq.trans rfl rfl
theorem lc_own {t j : Nat} : (L.own t j).cells = [.own t j] := Eq.trans rfl rfl
theorem lc_arr {t g : Nat} : (L.arr t g).cells = [.arr t g] := Eq.trans rfl rfl
theorem ex_box {m j : Nat} : (∃ n, M.box m = M.box n ∧ j < n) ↔ j < m := ⟨fun ⟨n, h, k⟩ => by cases h; exact k, fun h => ⟨m, rfl, h⟩⟩
theorem draw_ok {ops : Array Oper} {tr : List Tr} {K : Prop} (h : indepOk ops tr = true) (k : K) : need (indepOk ops tr = true) K := ⟨h, k⟩
end Go.Vm
