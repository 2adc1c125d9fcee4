import Derived.Test.YtmebdgliiickfaaVmW
import Derived.Laws.Sem
set_option linter.all false
/- A function's contract out of its body. -/
namespace Go.Vm
variable {Γ : Nat → Option (List V)} {X : Ctx} {N : Nat} {ds : List Deferred} {σ τ : VS} {a : Act} {w w' : World} {G G' : GG} {St St' : Nat → Nat → Prop} {own : Nat → Prop} {P : Program} {Sp : FuncId → List V → R → Prop} {ops : Array Oper}

def vresL (P : Program) (σ : VS) : List ResultVar → (List L → Prop) → Prop
  | [], K => K []
  | .tmp t :: r, K => vresL P σ r fun ls => K (σ.get t :: ls)
  | .cell a t :: r, K => match σ.get a with
    | .own s 0 => vload P σ t (.own s 0) fun e => vresL P σ r fun ls => K (e.val :: ls)
    | _ => False
def rOf : List V → R
  | [x] => .one (.c (.p x))
  | xs => .tup (xs.map fun x => .c (.p x))
/-- The frame hands back 'r'. -/
def vret (P : Program) (rs : List ResultVar) (r : R) (σ : VS) : Prop := vresL P σ rs fun ls => wantO (pubWith (pub1 σ) ls) fun q => r = rOf q.vs
def vexit (P : Program) (rs : List ResultVar) (r : R) : Exit → VS → Prop
  | .normal, σ => vret P rs r σ
  | .ret, σ => vret P rs r σ
  | _, _ => False

def resSem (tmps : Array Value) : ResultVar → Sem Value
  | .tmp t => pure (tmps.getD t undef)
  | .cell a t => do loadVar t (← asAddr (tmps.getD a undef))
theorem vresL_run (h : RepD Γ X N ds σ a w G St own) : ∀ {rs : List ResultVar} {C : List L → Prop}, vresL P σ rs C → ∃ ls vs, C ls ∧ (rs.mapM (resSem a.tmps)).run P w = .ok vs w ∧ repLs σ.mem G St (rdW w) ls vs
  | [], C, hk => ⟨[], [], hk, rfl, by simp only [repLs]⟩
  | .tmp t :: r, C, hk => by
    simp only [vresL] at hk
    obtain ⟨ls, vs, h1, h2, h3⟩ := vresL_run h hk
    refine ⟨_, a.tmps.getD t undef :: vs, h1, ?_, ?_⟩
    · rw [List.mapM_cons]
      simp only [Sem.run_bind, resSem, Sem.run_pure, Result.andThen_ok, h2]
    · simp only [repLs]; exact ⟨_, _, rfl, h.slots t, h3⟩
  | .cell b t :: r, C, hk => by
    simp only [vresL] at hk
    split at hk
    · rename_i s hs
      have hsl := h.slots b
      rw [hs] at hsl
      obtain ⟨e, u, hK, hw, hr, hv⟩ := h.load hsl hk
      obtain ⟨ls, vs, h1, h2, h3⟩ := vresL_run h hK
      simp only [repLv] at hsl
      rw [hsl.1] at hr
      refine ⟨_, u :: vs, h1, ?_, by simp only [repLs]; exact ⟨_, _, rfl, hv, h3⟩⟩
      have hr' : (loadVar t ⟨G.bk s, 0, none⟩).run P w = .ok u w := by simpa only [Instr.loadAt, Instr.sureAddr, Sem.run_bind, Sem.run_pure, Result.andThen_ok, pure_bind] using hr
      rw [List.mapM_cons]
      simp only [Sem.run_bind, resSem, hsl.1, asAddr, Sem.run_pure, Result.andThen_ok, hr', h2]
    · exact hk.elim

theorem results_run {fn : Func} {vs : List Value} {rs : List ResultVar} (hr : fn.results = rs.toArray) {ts : Array Value} (h : (rs.mapM (resSem ts)).run P w = .ok vs w) :
    (results fn ts).run P w = .ok (if h : vs.length = 1 then vs[0] else .tuple vs.toArray) w := by
  have e : fn.results.mapM (resSem ts) = (do return (← rs.mapM (resSem ts)).toArray) := by
    rw [hr, Array.mapM_eq_mapM_toList]
    simp
  have e2 : results fn ts = (do let vs ← fn.results.mapM (resSem ts); pure (if h : vs.size = 1 then vs[0] else .tuple vs)) := by
    unfold results
    congr 2
  rw [e2, e]
  simp only [Sem.run_bind, h, Result.andThen_ok, Sem.run_pure]
  by_cases h1 : vs.length = 1 <;> simp [h1]

/-- What a call owes its caller. -/
def callX (St0 : Nat → Nat → Prop) (w0 : World) : Ctx where
  I := fun own w => RowKit.Below w0.heap.size w0 w ∧ ∀ b, own b → w0.heap.size ≤ b
  St0 := St0
  B := w0.heap.size
  step := by
    rintro own w w' ⟨h1, h2⟩ hs
    refine ⟨h1.trans ⟨hs.os, hs.tape, hs.output, hs.size, fun k hk => hs.block k (by have := h1.size; omega) fun ho => by have := h2 k ho; omega⟩, fun b hb => ?_⟩
    rcases hb with hb | hb
    · exact h2 b hb
    · have := h1.size; omega

def argsG : Nat → List V → List (Nat × L)
  | _, [] => []
  | i, x :: xs => (i, .p x) :: argsG (i + 1) xs

theorem argsG_look {v : V → Prop} : ∀ {xs : List V} {i t : Nat}, lookG t (argsG i xs) = match (if i ≤ t then xs[t - i]? else none) with | some x => .p x | none => .dead
  | [], i, t => by simp [argsG, lookG]
  | x :: xs, i, t => by
    simp only [argsG, lookG]
    by_cases h : t = i
    · subst h; simp
    · rw [if_neg h, argsG_look (v := v)]
      by_cases h2 : i ≤ t
      · rw [if_pos h2, if_pos (by omega), show t - i = (t - (i + 1)) + 1 by omega]; simp
      · rw [if_neg h2, if_neg (by omega)]

theorem repT_at {rd : Nat → Nat → Option Value} : ∀ {xs : List V} {vs : List Value}, repT St rd xs vs → xs.length = vs.length ∧ ∀ (i : Nat) (x : V) (v : Value), xs[i]? = some x → vs[i]? = some v → rep St rd x v
  | [], vs, h => by simp only [repT] at h; subst h; simp
  | x :: xs, vs, h => by
    simp only [repT] at h
    obtain ⟨v, r, rfl, p, q⟩ := h
    obtain ⟨h1, h2⟩ := repT_at q
    refine ⟨by simp [h1], fun i x' v' hx hv => ?_⟩
    cases i with
    | zero => simp at hx hv; subst hx hv; exact p
    | succ i => exact h2 i x' v' (by simpa using hx) (by simpa using hv)
theorem repT_R1s {B : Nat} : ∀ {xs : List V} {vs : List Value}, repT St (rdW w) xs vs → repR1s St w B (xs.map fun x => .c (.p x)) vs []
  | [], vs, h => by simp only [repT] at h; subst h; simp [repR1s]
  | x :: xs, vs, h => by
    simp only [repT] at h
    obtain ⟨v, r, rfl, p, q⟩ := h
    simp only [List.map_cons, repR1s]
    exact ⟨v, r, [], [], rfl, rfl, ⟨p, rfl⟩, repT_R1s q⟩

theorem spec_of {f : FuncId} {fn : Func} {c : Code} {rs : List ResultVar} {args : List V} {r : R} (hm : P.follows .mixedOrders = true) (hSp : ∀ f args r, Sp f args r → Spec P Γ f args r) (hf : P.funcs[f]? = some fn) (hn : fn.name ≠ "runtime.NumGoroutine") (hb : fn.body = some c) (hrs : fn.results = rs.toArray)
    (hN : fn.ntmps = N) (hle : args.length ≤ N) (hcd : codeDsts N c = true) (hk : vcode P Γ Sp c (vexit P rs r) (VS.of (argsG 0 args) [])) : Spec P Γ f args r := by
  refine ⟨enters_of hf hn hb, fun St w vs hst hglob hargs => callsIn_wide (n := 0).1 ?_⟩
  obtain ⟨hlen, hget⟩ := repT_at hargs
  refine callsIn_of_wp hf hb trivial ?_
  have hR : RepD Γ (callX St w) N [] (VS.of (argsG 0 args) []) { tmps := vs.toArray ++ Array.replicate (fn.ntmps - vs.toArray.size) undef, defers := [] } w ⟨fun _ => 0, fun _ => undef⟩ St (fun _ => False) := by
    exact {
      size := by simp; omega
      defs := rfl
      inv := ⟨RowKit.Below.refl _ _, fun _ h => h.elim⟩
      st0 := fun _ _ h => h
      stn := fun _ _ h => .inl h
      stlt := hst
      blt := Nat.le_refl _
      ownlt := fun _ h => h.elim
      glob := hglob
      slots := fun t => by
        show repLv _ _ _ _ (lookG t (argsG 0 args)) _
        rw [argsG_look (v := fun _ => True)]
        simp only [Nat.zero_le, if_true, Nat.sub_zero]
        cases hx : args[t]? with
        | none => simp only [repLv]
        | some x =>
          have ht : t < vs.length := by have := (List.getElem?_eq_some_iff.1 hx).1; omega
          have hv : vs[t]? = some vs[t] := by simp [ht]
          have h1 := hget t x vs[t] hx hv
          have h2 : (vs.toArray ++ Array.replicate (fn.ntmps - vs.toArray.size) undef).getD t undef = vs[t] := by
            rw [Array.getD_eq_getD_getElem?, Array.getElem?_append_left (by simpa using ht)]
            simp [ht]
          simp only [repLv]
          rw [h2]; exact h1
      boxes := fun t n h => by simp [VS.of, look] at h
      arrs := fun t g e es xs h => by simp [VS.of, look] at h
      disj := fun t t' b h => by simp [VS.of, look, blkOf] at h
      both := fun t n g e es xs h => by simp [VS.of, look] at h
      ownb := fun t b h => by simp [VS.of, look, blkOf] at h
      sbox := fun t n h => by simp [VS.of, look] at h
      sarr := fun t g e es xs b h => by simp [VS.of, look] at h }
  have hw := code_sound (ro := none) (n := 0) hSp hm c (Q := bodyPost P fn fun e w' => ∃ v St' bl, e = .returned v ∧ RowKit.Below w.heap.size w w' ∧ (∀ b o, St b o → St' b o) ∧ (∀ b o, St' b o → St b o ∨ w.heap.size ≤ b) ∧ (∀ b o, St' b o → b < w'.heap.size) ∧ bl.Nodup ∧ repR St' w' w.heap.size r v bl) hcd ⟨_, _, _, hR⟩ hk ?_
  · exact hw
  · intro e σ' a' w' hc hRp
    obtain ⟨G, St1, own, hR1⟩ := hRp
    have fin : vret P rs r σ' → a'.defers = [] ∧ ∃ v, (results fn a'.tmps).run P w' = .ok v w' ∧ ∃ v' St' bl, Ending.returned v = .returned v' ∧ RowKit.Below w.heap.size w w' ∧ (∀ b o, St b o → St' b o) ∧ (∀ b o, St' b o → St b o ∨ w.heap.size ≤ b) ∧ (∀ b o, St' b o → b < w'.heap.size) ∧ bl.Nodup ∧ repR St' w' w.heap.size r v' bl := by
      intro hv
      obtain ⟨ls, us, h1, h2, h3⟩ := vresL_run hR1 hv
      obtain ⟨q, hq, rfl⟩ := wantO_iff.1 h1
      have hF := hR1.frz q.fz
      have hT := hR1.pubs hq h3 (fz := q.fz) fun _ h => h
      refine ⟨hR1.defs, _, results_run hrs h2, _, stF σ' G St1 q.fz, [], rfl, hR1.inv.1, fun b o hb => hF.st0 b o hb, fun b o hb => hF.stn b o hb, hF.stlt, List.nodup_nil, ?_⟩
      obtain ⟨hl, hg⟩ := repT_at hT
      generalize q.vs = xs at hT hl
      match xs, us, hT, hl with
      | [x], us, hT, hl =>
        simp only [repT] at hT
        obtain ⟨v, r, rfl, p, rfl⟩ := hT
        simp only [rOf, repR, repR1, repRC]
        exact ⟨p, trivial⟩
      | [], us, hT, hl =>
        simp only [repT] at hT
        subst hT
        simp only [rOf, List.map_nil, repR, repR1s]
        exact ⟨#[], by simp, rfl, trivial⟩
      | x :: y :: xs, us, hT, hl =>
        have hne : ¬ us.length = 1 := by simp at hl; omega
        rw [dif_neg hne]
        simp only [rOf, repR]
        exact ⟨us.toArray, rfl, repT_R1s hT⟩
    cases e with
    | normal => exact fin hc
    | ret => exact fin hc
    | _ => exact hc.elim
end Go.Vm
