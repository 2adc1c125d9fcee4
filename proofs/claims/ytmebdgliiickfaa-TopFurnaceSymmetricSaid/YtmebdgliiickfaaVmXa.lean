import Derived.Test.YtmebdgliiickfaaVmX
set_option linter.all false
/- A function that hands over an array of its own. -/
namespace Go.Vm
variable {Γ : Nat → Option (List V)} {X : Ctx} {N : Nat} {ds : List Deferred} {σ τ : VS} {a : Act} {w w' : World} {G G' : GG} {St St' : Nat → Nat → Prop} {own : Nat → Prop} {P : Program} {Sp : FuncId → List V → R → Prop} {ops : Array Oper}
def isArrV (r : R) (σ : VS) (ls : List L) : Prop := ∃ t g e es xs, ls = [.arr t g] ∧ σ.mem (.a t) = .arr g e es xs ∧ isNone (σ.mem (.f t)) = true ∧ r = R.one (.c (.arr e es xs))
def vretA (P : Program) (rs : List ResultVar) (r : R) (σ : VS) : Prop := vresL P σ rs fun ls => isArrV r σ ls
def vexitA (P : Program) (rs : List ResultVar) (r : R) : Exit → VS → Prop
  | .normal, σ => vretA P rs r σ
  | .ret, σ => vretA P rs r σ
  | _, _ => False
theorem spec_of_arr {f : FuncId} {fn : Func} {c : Code} {rs : List ResultVar} {args : List V} {r : R} (hm : P.follows .mixedOrders = true) (hSp : ∀ f args r, Sp f args r → Spec P Γ f args r) (hf : P.funcs[f]? = some fn) (hn : fn.name ≠ "runtime.NumGoroutine") (hb : fn.body = some c) (hrs : fn.results = rs.toArray)
    (hN : fn.ntmps = N) (hle : args.length ≤ N) (hcd : codeDsts N c = true) (hk : vcode P Γ Sp c (vexitA P rs r) (VS.of (argsG 0 args) [])) : Spec P Γ f args r := by
  refine ⟨enters_of hf hn hb, fun St w vs hst hglob hargs => callsIn_wide (n := 0).1 ?_⟩
  obtain ⟨hlen, hget⟩ := repT_at hargs
  refine callsIn_of_wp hf hb trivial ?_
  have hR : RepD Γ (callX St w) N [] (VS.of (argsG 0 args) []) { tmps := vs.toArray ++ Array.replicate (fn.ntmps - vs.toArray.size) undef, defers := [] } w ⟨fun _ => 0, fun _ => undef⟩ St (fun _ => False) := by
    exact {
      size := by simp; omega
      defs := rfl
      inv := ⟨RowKit.Below.refl _ _, fun _ h => h.elim⟩
      st0 := fun _ _ h => h
      stn := fun _ _ h => .inl h
      stlt := hst
      blt := Nat.le_refl _
      ownlt := fun _ h => h.elim
      glob := hglob
      slots := fun t => by
        show repLv _ _ _ _ (lookG t (argsG 0 args)) _
        rw [argsG_look (v := fun _ => True)]
        simp only [Nat.zero_le, if_true, Nat.sub_zero]
        cases hx : args[t]? with
        | none => simp only [repLv]
        | some x =>
          have ht : t < vs.length := by have := (List.getElem?_eq_some_iff.1 hx).1; omega
          have hv : vs[t]? = some vs[t] := by simp [ht]
          have h1 := hget t x vs[t] hx hv
          have h2 : (vs.toArray ++ Array.replicate (fn.ntmps - vs.toArray.size) undef).getD t undef = vs[t] := by
            rw [Array.getD_eq_getD_getElem?, Array.getElem?_append_left (by simpa using ht)]
            simp [ht]
          simp only [repLv]
          rw [h2]; exact h1
      boxes := fun t n h => by simp [VS.of, look] at h
      arrs := fun t g e es xs h => by simp [VS.of, look] at h
      disj := fun t t' b h => by simp [VS.of, look, blkOf] at h
      both := fun t n g e es xs h => by simp [VS.of, look] at h
      ownb := fun t b h => by simp [VS.of, look, blkOf] at h
      sbox := fun t n h => by simp [VS.of, look] at h
      sarr := fun t g e es xs b h => by simp [VS.of, look] at h }
  have hw := code_sound (ro := none) (n := 0) hSp hm c (Q := bodyPost P fn fun e w' => ∃ v St' bl, e = .returned v ∧ RowKit.Below w.heap.size w w' ∧ (∀ b o, St b o → St' b o) ∧ (∀ b o, St' b o → St b o ∨ w.heap.size ≤ b) ∧ (∀ b o, St' b o → b < w'.heap.size) ∧ bl.Nodup ∧ repR St' w' w.heap.size r v bl) hcd ⟨_, _, _, hR⟩ hk ?_
  · exact hw
  · intro e σ' a' w' hc hRp
    obtain ⟨G, St1, own, hR1⟩ := hRp
    have fin : vretA P rs r σ' → a'.defers = [] ∧ ∃ v, (results fn a'.tmps).run P w' = .ok v w' ∧ ∃ v' St' bl, Ending.returned v = .returned v' ∧ RowKit.Below w.heap.size w w' ∧ (∀ b o, St b o → St' b o) ∧ (∀ b o, St' b o → St b o ∨ w.heap.size ≤ b) ∧ (∀ b o, St' b o → b < w'.heap.size) ∧ bl.Nodup ∧ repR St' w' w.heap.size r v' bl := by
      intro hv
      obtain ⟨ls, us, ⟨t, g, e, es, xs, rfl, hm', hf', rfl⟩, h2, h3⟩ := vresL_run hR1 hv
      simp only [repLs] at h3
      obtain ⟨u, r, rfl, h4, rfl⟩ := h3
      simp only [repLv] at h4
      obtain ⟨g1, e1, es1, xs1, hm1, _, _, h5⟩ := h4
      rw [hm'] at hm1; cases hm1
      have hu := h5 rfl
      subst hu
      obtain ⟨h0, vs', hrow, hE⟩ := hR1.arrs t g e es xs hm'
      refine ⟨hR1.defs, _, results_run hrs h2, _, St1, (G.av t).ownBlock.toList, rfl, hR1.inv.1, hR1.st0, hR1.stn, hR1.stlt, ?_, ?_⟩
      · cases (G.av t).ownBlock <;> simp
      · simp only [List.length_cons, List.length_nil, Nat.zero_add, dite_true, List.getElem_cons_zero, repR, repR1, repRC]
        refine ⟨h0, ⟨vs', hrow, hE⟩, by simp, fun b hb => ?_⟩
        have hb' : (G.av t).ownBlock = some b := by simpa using hb
        have hblk : blkOf σ'.mem G t = some b := by rw [hR1.blkA hm']; exact hb'
        have ho := hR1.ownlt b (hR1.ownb t b hblk)
        exact ⟨ho.2, ho.1, (hR1.sarr t g e es xs b hm' hb').1 hf'⟩
    cases e with
    | normal => exact fin hc
    | ret => exact fin hc
    | _ => exact hc.elim
theorem isArrV_of {gs : List (Nat × L)} {ms : List (Key × M)} {t g es : Nat} {e : TypeId} {xs : List V} {r : R} (h1 : look (.a t) .none ms = .arr g e es xs) (h2 : isNone (look (.f t) .none ms) = true) (h3 : r = R.one (.c (.arr e es xs))) : isArrV r (VS.of gs ms) [.arr t g] := ⟨t, g, e, es, xs, rfl, h1, h2, h3⟩
theorem vexitA_r {rs : List ResultVar} {r : R} : vexitA P rs r .ret σ = vresL P σ rs fun ls => isArrV r σ ls := Eq.trans rfl rfl
theorem vexitA_n {rs : List ResultVar} {r : R} : vexitA P rs r .normal σ = vresL P σ rs fun ls => isArrV r σ ls := Eq.trans rfl rfl
end Go.Vm
