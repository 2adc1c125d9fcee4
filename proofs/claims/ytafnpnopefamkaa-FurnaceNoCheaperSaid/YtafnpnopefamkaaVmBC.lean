import Derived.Test.YtafnpnopefamkaaVmBB
import Derived.Laws.Sem
import Derived.RangeFuncLeaves
set_option linter.all false
namespace Go.Vm
variable {Γ : Nat → Option (List V)} {X : Ctx} {N : Nat} {ds : List Deferred} {σ τ : VS} {a : Act} {w w' : World} {G G' : GG} {St St' : Nat → Nat → Prop} {own it : Nat → Prop} {P : Program} {Sp : FuncId → List V → R → Prop}

def Snd (P : Program) (Γ : Nat → Option (List V)) (N : Nat) (c : Code) (A : (Exit → VS → Prop) → VS → Prop) : Prop :=
  ∀ (X : Ctx) (l n : Nat) (Q : Exit → Act → World → Prop) (C : Exit → VS → Prop) (σ : VS) (a : Act) (w : World), Rp Γ X N [] σ a w → A C σ → (∀ e σ' a' w', C e σ' → Rp Γ X N [] σ' a' w' → Q e a' w') → c.wpIn (fr (some l)) n P Q a w

theorem rounds {assign body : Code} {A B : (Exit → VS → Prop) → VS → Prop} (hA : Snd P Γ N assign A) (hB : Snd P Γ N body B) {ps : Array Nat} (hps : ∀ t ∈ ps.toList, t < N) {ys : List (List V)} {Inv : Nat → VS → Prop} {C : Exit → VS → Prop} {S0 : Nat → Nat → Prop} {l : Nat} {fn : FuncId} {D : Nat} {B0 : Nat}
    (hround : ∀ i vs τ, ys[i]? = some vs → Inv i τ → vs.length = ps.size ∧ A (thenN fun σ => vsay (B (roundV Inv i C)) σ) (VS.puts (ps.toList.zip vs) τ.opn)) :
    Yields P (ctxI Γ X N S0 a l Inv C { state := .ready, pending := none, fn, tmps := a.tmps, params := ps, assign, body, defers := D } B0) (yOf l ys) := by
  rintro l' i vs us it w St hy hus hI hit hst0 hst hlt ro n
  obtain ⟨rfl, hy⟩ := hy
  obtain ⟨τ, G, S0', own, h1, h20, h3, h40, h7, h5, h6⟩ := hI
  obtain ⟨S, hSd⟩ : ∃ S : Nat → Nat → Prop, S = fun b o => S0' b o ∨ St b o := ⟨_, rfl⟩
  have hS1 : ∀ b o, S0' b o → S b o := fun b o hb => by rw [hSd]; exact .inl hb
  have hS2 : ∀ b o, St b o → S b o := fun b o hb => by rw [hSd]; exact .inr hb
  have hSc : ∀ b o, S b o → S0' b o ∨ it b := fun b o hb => by
    rw [hSd] at hb
    exact hb.elim .inl fun hb => (hst b o hb).imp (h3 b o) id
  have h2 := h20.moreS (St' := S) hS1 (fun b o hb => (hSc b o hb).elim (h20.stn b o) fun hb => .inr (h40 b hb).1) (fun t b o hb ho => (hSc b o ho).elim id fun hi => ((h40 b hi).2.1 t hb).elim) (fun b o hb => by
    rw [hSd] at hb
    exact hb.elim (h20.stlt b o) (hlt b o))
  have hSit : ∀ k, it k → ∀ o, S k o → St k o := fun k hk o ho => by
    rw [hSd] at ho
    exact ho.elim ((h40 k hk).2.2 o) id
  have hSl : ∀ o, ¬ S l' o := fun o ho => (hSc _ o ho).elim (h7.2.2 o) h5
  have h4 : ∀ k, it k ∨ k = l' → own k ∧ ∀ t, blkOf τ.mem G t ≠ some k := fun k hk => by
    rcases hk with hk | rfl
    · exact ⟨(h40 k hk).1, (h40 k hk).2.1⟩
    · exact ⟨h7.1, h7.2.1⟩
  obtain ⟨hlen, hk⟩ := hround i vs τ hy h1
  have hlu : us.length = ps.size := by rw [← (repT_at hus).1, hlen]
  refine ⟨fn, _, assign, body, run_yield h6 (by simpa using hlu), ?_⟩
  refine roundIn_of_wpIn (F := fr ro) trivial ?_
  -- the round's frame
  let K0 : Nat → Prop := fun k => it k ∨ k = l'
  have hR := (h2.opn fun t => rfl).intoR (K0 := K0) (kv := fun t => a.tmps.getD t undef) (fun k hk => (h4 k hk).1) (fun k hk t => (h4 k hk).2 t) (fun t l hb => h2.virts t l hb)
  have hR2 := hR.puts (ps := ps.toList) hps (repT_mono hS2 (fun _ _ _ => rfl) _ _ hus)
  have hmk0 := h2.defs
  have htm : (ps.zip us.toArray).foldl (fun (tmps : Array Value) (x : Nat × Value) => tmps.setIfInBounds x.1 x.2) a.tmps = (ps.toList.zip us).foldl (fun tmps x => tmps.setIfInBounds x.1 x.2) a.tmps := by
    rw [← Array.foldl_toList]; simp
  show assign.wpIn (fr (some l')) n P _ { tmps := (ps.zip us.toArray).foldl (fun (tmps : Array Value) (x : Nat × Value) => tmps.setIfInBounds x.1 x.2) a.tmps, defers := [] } w
  rw [htm]
  refine hA _ l' n _ _ _ _ w ⟨G, S, _, hR2⟩ hk ?_
  -- behind the assignments
  rintro e σ1 a1 w1 hc ⟨G1, S1, own1, hR1⟩
  cases e with
  | normal =>
    have hc : ∃ σ1' G1' S1', B (roundV Inv i C) σ1' ∧ RepD Γ (ctxR (X.wkv fun t => a.tmps.getD t undef) (fun t => a.tmps.getD t undef) K0 a.defers S own w) N [] σ1' a1 w1 G1' S1' own1 := by
      rcases hc with hc | ⟨τ', ⟨σ', hv', hw'⟩, hc⟩
      · exact ⟨σ1, G1, S1, hc, hR1⟩
      · obtain ⟨S', h''⟩ := hR1.asv hv'
        obtain ⟨G', h'⟩ := h''.weaken hw'
        exact ⟨τ', G', S', hc, h'⟩
    clear hR1
    obtain ⟨σ1, G1, S1, hc, hR1⟩ := hc
    obtain ⟨i1, i2, i3, i4, i5⟩ := hR1.inv
    have hKB : ∀ k, K0 k → own k ∧ X.B ≤ k := fun k hk => ⟨(h4 k hk).1, (h2.ownlt k (h4 k hk).1).2⟩
    have hO := hR1.outR dsM_ne h2.st0 hmk0 hKB h2.stn
    obtain ⟨o1, hO1, hK1⟩ := hO
    have hl1 : w1.heap[l']? = some (.loop { state := .ready, pending := none, fn, tmps := a.tmps, params := ps, assign, body, defers := D }) := by rw [(i2 l' (.inl (.inr rfl))).2.2]; exact h6
    refine ⟨_, run_beginRound hl1 rfl, ?_⟩
    obtain ⟨k1, k2, k3⟩ := hK1 l' (.inr rfl)
    have hO2 := hO1.turnL (o := .loop { state := .busy, pending := none, fn, tmps := a.tmps, params := ps, assign, body, defers := D }) k1 k2 fun o ho => hSl o (k3 o ho)
    have hR3 := hO2.intoR (K0 := K0) (kv := fun t => a.tmps.getD t undef) (fun k hk => (hK1 k hk).1) (fun k hk t => (hK1 k hk).2.1 t) (fun t l hb => hO2.virts t l hb)
    have e1 : ({ ({ a1 with defers := a.defers } : Act) with defers := [] } : Act) = a1 := by
      have := hR1.dsq rfl
      obtain ⟨t1, d1⟩ := a1
      simp only at this; subst this; rfl
    rw [e1] at hR3
    have hl2 : (w1.putObj l' (.loop { state := .busy, pending := none, fn, tmps := a.tmps, params := ps, assign, body, defers := D })).heap[l']? = some (.loop { state := .busy, pending := none, fn, tmps := a.tmps, params := ps, assign, body, defers := D }) := World.putObj_heap_same (Array.getElem?_eq_some_iff.1 hl1).1
    -- a round's end, however it comes
    have fin : ∀ (Φ : VS → Prop) (σ2 : VS) (a2 : Act) (w3 : World) (G2 : GG) (S2 : Nat → Nat → Prop) (own2 : Nat → Prop) (r : Loop), RepD Γ (ctxR (X.wkv fun t => a.tmps.getD t undef) (fun t => a.tmps.getD t undef) K0 a.defers S1 o1 (w1.putObj l' (.loop { state := .busy, pending := none, fn, tmps := a.tmps, params := ps, assign, body, defers := D }))) N [] σ2.shut a2 w3 G2 S2 own2 → Φ σ2 →
        w3.heap[l']? = some (.loop { state := .busy, pending := none, fn, tmps := a.tmps, params := ps, assign, body, defers := D }) ∧ w.heap.size ≤ (w3.putObj l' (.loop r)).heap.size ∧ (∀ k, it k → (w3.putObj l' (.loop r)).heap[k]? = w.heap[k]?) ∧ (∀ b o, St b o → rdW (w3.putObj l' (.loop r)) b o = rdW w b o) ∧ RI Γ X N S0 a l' Φ r it St (w3.putObj l' (.loop r)) := by
      intro Φ σ2 a2 w3 G2 S2 own2 r hR4 hΦ
      obtain ⟨j1, j2, j3, j4, j5⟩ := hR4.inv
      have hl3 : w3.heap[l']? = some (.loop { state := .busy, pending := none, fn, tmps := a.tmps, params := ps, assign, body, defers := D }) := by rw [(j2 l' (.inl (.inr rfl))).2.2]; exact hl2
      have hO3 := hR4.outR dsM_ne hO2.st0 hO2.defs (fun k hk => ⟨(hK1 k hk).1, (hO2.ownlt k (hK1 k hk).1).2⟩) hO2.stn
      obtain ⟨o3, hO3, hK3⟩ := hO3
      obtain ⟨m1, m2, m3⟩ := hK3 l' (.inr rfl)
      have hl9 : ∀ o, ¬ S2 l' o := fun o ho => hSl o (k3 o (m3 o ho))
      have hO4 := hO3.turnL (o := .loop r) m1 m2 hl9
      have hS : ∀ b o, S b o → rdW (w3.putObj l' (.loop r)) b o = rdW w b o := fun b o hb => by
        rw [rd_put hl3, (j4 b o (hR1.st0 b o hb)).2, rd_put hl1, (i4 b o hb).2]
      have hit : ∀ k, it k → (w3.putObj l' (.loop r)).heap[k]? = w.heap[k]? := fun k hk => by
        have hne : k ≠ l' := fun e => h5 (e ▸ hk)
        rw [World.putObj_heap_other hne, (j2 k (.inl (.inl hk))).2.2, World.putObj_heap_other hne, (i2 k (.inl (.inl hk))).2.2]
      refine ⟨hl3, ?_, hit, fun b o hb => hS b o (hS2 b o hb), σ2, G2, S2, o3, hΦ, ?_, fun b o hb => hR4.st0 b o (hR1.st0 b o (hS1 b o (h3 b o hb))), fun k hk => ⟨(hK3 k (.inl hk)).1, (hK3 k (.inl hk)).2.1, fun o ho => hSit k hk o ((hK1 k (.inl hk)).2.2 o ((hK3 k (.inl hk)).2.2 o ho))⟩, ⟨m1, m2, hl9⟩, h5, World.putObj_heap_same (Array.getElem?_eq_some_iff.1 hl3).1⟩
      · simp only [World.putObj_size] at j5 ⊢
        exact Nat.le_trans i5 j5
      · refine hO4.ctx (fun _ _ => rfl) h2.size hO4.defs (fun h => (dsM_ne h).elim) hO4.inv hO4.st0 hO4.stn hO4.blt hO4.ownlt hO4.ownb (fun t => by simp only [VS.shut, repLv]) fun t l hb => hO4.virts t l hb
    refine hB _ l' n _ _ σ1 a1 _ ⟨G1, S1, _, hR3⟩ hc ?_
    rintro e σ2 a2 w3 hc2 ⟨G2, S2, own2, hR4⟩
    cases e with
    | normal =>
      obtain ⟨τ2, hw2, hi2⟩ := hc2
      obtain ⟨G3, hR5⟩ := hR4.shut.weaken hw2
      obtain ⟨f1, f2, f3, f4, f5⟩ := fin (Inv (i + 1)) τ2 a2 w3 G3 S2 own2 { state := .ready, pending := none, fn, tmps := a.tmps, params := ps, assign, body, defers := D } hR5.shut hi2
      exact ⟨_, _, run_endRound none f1, true, rfl, f2, f3, f4, f5⟩
    | ret =>
      obtain ⟨f1, f2, f3, f4, f5⟩ := fin (fun τ => C .ret τ.back) σ2 a2 w3 G2 S2 own2 { state := .done, pending := some .ret, fn, tmps := a.tmps, params := ps, assign, body, defers := D } hR4.shut hc2
      exact ⟨_, _, run_endRound (some .ret) f1, false, rfl, f2, f3, f4, .ret, .ret, rfl, f5⟩
    | exit id =>
      obtain ⟨f1, f2, f3, f4, f5⟩ := fin (fun τ => C (.exit id) τ.back) σ2 a2 w3 G2 S2 own2 { state := .done, pending := some (.exit id), fn, tmps := a.tmps, params := ps, assign, body, defers := D } hR4.shut hc2
      exact ⟨_, _, run_endRound (some (.exit id)) f1, false, rfl, f2, f3, f4, .exit id, .exit id, rfl, f5⟩
    | _ => exact hc2.elim
  | _ => exact hc

def vrange (P : Program) (Γ : Nat → Option (List V)) (A B : (Exit → VS → Prop) → VS → Prop) (g : Operand) (ps : Array Nat) (C : Exit → VS → Prop) (σ : VS) : Prop :=
  ∃ (f : FuncId) (first caps : List V) (ys : List (List V)) (Inv : Nat → VS → Prop), σ.ev Γ g = .p (.fn f first caps) ∧ SpecI2 P Γ f first caps ys ∧ (∃ τ, WkS σ.keep τ ∧ Inv 0 τ) ∧
    (∀ i vs τ, ys[i]? = some vs → Inv i τ → vs.length = ps.size ∧ A (thenN fun σ => vsay (B (roundV Inv i C)) σ) (VS.puts (ps.toList.zip vs) τ.opn)) ∧ (∀ τ, Inv ys.length τ → C .normal τ.back)

theorem range_sound {assign body : Code} {A B : (Exit → VS → Prop) → VS → Prop} (hA : Snd P Γ N assign A) (hB : Snd P Γ N body B) {g : Operand} {ps : Array Nat} (hps : ∀ t ∈ ps.toList, t < N) {n : Nat} {Q : Exit → Act → World → Prop} {C : Exit → VS → Prop} (h : Rp Γ X N ds σ a w) (hds : ds ≠ []) (hk : vrange P Γ A B g ps C σ)
    (hQ : ∀ e σ' a' w', C e σ' → Rp Γ X N ds σ' a' w' → Q e a' w') : (Code.rangeFunc g ps assign body).wpIn (fr none) n P Q a w := by
  obtain ⟨G, St, own, h⟩ := h
  obtain ⟨f, first, caps, ys, Inv, hg, ⟨hent, hI⟩, ⟨τ0, hw0, hi0⟩, hround, hend⟩ := hk
  have hgv := h.ev (Γ := Γ) g
  rw [hg] at hgv
  obtain ⟨p1, p2⟩ := pval hgv
  simp only [repC] at p1
  obtain ⟨a1, a2, e1, q1, q2⟩ := p1
  have efv := val_of_one e1 p2
  refine wpIn_rangeFunc fun fn _ => ?_
  let wa := w.alloc (.deferred (some []))
  let rec0 : Loop := { state := .ready, pending := none, fn, tmps := a.tmps, params := ps, assign, body, defers := w.heap.size }
  let wb := wa.alloc (.loop rec0)
  have hsa : wa.heap.size = w.heap.size + 1 := by simp [wa]
  have hsb : wb.heap.size = w.heap.size + 2 := by simp [wb, wa]
  have hD : wb.heap[w.heap.size]? = some (.deferred (some [])) := by
    have h1 : wb.heap[w.heap.size]? = wa.heap[w.heap.size]? := RowKit.Below.heap_alloc wa _ w.heap.size (by omega)
    rw [h1]; exact heap_alloc_new w _
  have hl : wb.heap[w.heap.size + 1]? = some (.loop rec0) := by rw [← hsa]; exact heap_alloc_new wa _
  -- the frame behind the record
  let aM : Act := { a with defers := ⟨.collected w.heap.size, #[]⟩ :: a.defers }
  obtain ⟨G0, h0⟩ := h.keepS.weaken hw0
  have h1 := (h0.ext (Stp.alloc (fun _ => False) w (.deferred (some [])))).ext (Stp.alloc (fun _ => False) wa (.loop rec0))
  have hM : Marks X aM.defers (fun b => own b ∨ b = w.heap.size + 1) wb := by
    refine ⟨List.nodup_cons.2 ⟨fun hm => ?_, h.defs.1⟩, fun d hd => ?_⟩
    · have := (h.defs.lt hm).1; omega
    · rcases List.mem_cons.1 hd with rfl | hd
      · refine ⟨_, rfl, hD, h.blt, fun hb => ?_, fun o ho => ?_⟩
        · rcases hb with hb | hb
          · have := (h.ownlt _ hb).1; omega
          · omega
        · have := h.stlt _ _ (h.st0 _ _ ho); omega
      · obtain ⟨r, e, p, q, s, t⟩ := h1.defs.2 d hd
        refine ⟨r, e, p, q, fun hb => ?_, t⟩
        rcases hb with hb | hb
        · exact s (.inl (.inl hb))
        · have : mkD a.defers r := by unfold mkD; rw [← e]; exact hd
          have := (h.defs.lt this).1; omega
  have h2 : RepD Γ (X.wkv fun t => a.tmps.getD t undef) N dsM τ0.shut aM wb G0 St (fun b => own b ∨ b = w.heap.size + 1) := by
    refine h1.ctx (w := wb) (fun _ _ => rfl) h.size hM (fun h => (dsM_ne h).elim) ?_ h1.st0 (fun b o hb => (h.stn b o hb).imp id .inl) h1.blt (fun b hb => ?_) (fun t b hb => .inl (h0.ownb t b hb)) (fun t => by simp only [VS.shut, repLv]) h1.virts
    · have e : ownM (fun b => own b ∨ b = w.heap.size + 1) aM.defers = ownM (newOwn (newOwn own w wa) wa wb) a.defers := by
        funext b; apply propext; unfold ownM newOwn mkD
        simp only [aM, List.mem_cons, hsa, hsb]
        constructor
        · rintro ((h | h) | (h | h))
          · exact .inl (.inl (.inl h))
          · exact .inl (.inr ⟨by omega, by omega⟩)
          · cases h; exact .inl (.inl (.inr ⟨by omega, by omega⟩))
          · exact .inr h
        · rintro (((h | h) | h) | h)
          · exact .inl (.inl h)
          · have : b = w.heap.size := by omega
            subst this; exact .inr (.inl rfl)
          · exact .inl (.inr (by omega))
          · exact .inr (.inr h)
      rw [e]; exact h1.inv
    · rcases hb with hb | hb
      · exact h1.ownlt b (.inl (.inl hb))
      · exact ⟨by omega, by show X.B ≤ b; have := h.blt; omega⟩
  let XI := ctxI Γ X N St aM (w.heap.size + 1) Inv C rec0 wb.heap.size
  have hYI : Yields P XI (yOf (w.heap.size + 1) ys) := rounds (a := aM) hA hB hps hround
  have h4 : XI.I (.cnt 0) (fun _ => False) XI.St0 wb := by
    refine ⟨τ0, G0, St, _, hi0, h2, fun _ _ h => h, fun k hk => hk.elim, ⟨.inr rfl, fun t ht => ?_, fun o ho => ?_⟩, id, hl⟩
    · have := h0.blk_lt (t := t) ht; omega
    · have := h.stlt _ _ ho; omega
  have hst : ∀ b o, St b o → b < wb.heap.size := fun b o hb => by have := h.stlt b o hb; omega
  have hrd : ∀ b o, St b o → rdW wb b o = rdW w b o := fun b o hb => by
    have hlt := h.stlt b o hb
    exact (rdW_of_block (RowKit.Below.heap_alloc wa _ b (by omega))).trans (rdW_of_block (RowKit.Below.heap_alloc w _ b hlt))
  have hcall := hI XI wb a1.toList a2.toList (w.heap.size + 1) (Nat.le_refl _) hYI h4 hst (fun g cs hg => repA_mono (fun _ _ h => h) hrd cs g 0 (h.glob g cs hg)) (repT_mono (fun _ _ h => h) hrd first _ q1) (repT_mono (fun _ _ h => h) hrd caps _ q2)
  simp only [Array.toArray_toList] at hcall
  -- the call
  have hres : (resolve a.eval (rangeCall g (w.heap.size + 1)) 0).run P wb = .ok ⟨.fn (.func f) a2, a1 ++ #[.func (.yield (w.heap.size + 1)) #[] #[]]⟩ wb := by
    have hcv : ∀ v, a.eval (.const v) = v := fun _ => rfl
    simp [resolve, efv, hcv, Deferred.ofValue, Sem.run_bind, Sem.run_pure, Result.andThen_ok]
  have hinv : (invoke (.fn (.func f) a2) (a1 ++ #[.func (.yield (w.heap.size + 1)) #[] #[]])).run P wb = .ok (.enter f (a1 ++ #[.func (.yield (w.heap.size + 1)) #[] #[]] ++ a2)) wb := by
    simp only [invoke]; exact hent _ _
  generalize a1 ++ #[.func (.yield (w.heap.size + 1)) #[] #[]] = ar at hcall hres hinv
  generalize ar ++ a2 = br at hcall hinv
  refine ⟨w.heap.size + 1, [⟨.collected w.heap.size, #[]⟩], wb, ⟨.fn (.func f) a2, ar⟩, wb, f, br, wb, run_enterLoop_outer _ _ _ _ _, hres, fun _ _ => trivial, hinv, fun h => by simp [fr, Fence.wide] at h, ?_⟩
  have hc : CallsIn Fence.wide (n - 1) P f _ wb _ := callsIn_wide.2 hcall
  refine CallsIn.mono (F := fr none) hc ?_
  rintro e w3 ⟨v, it, Si, rfl, hend2⟩
  -- behind the loop
  have fin : ∀ (Φ : VS → Prop) (r : Loop), RI Γ X N St aM (w.heap.size + 1) Φ r it Si w3 → r.state ≠ .busy → ∃ σ', Φ σ' ∧ (Instr.endLoop (w.heap.size + 1)).run P w3 = .ok r.pending (w3.putObj (w.heap.size + 1) (.loop { r with state := .exhausted })) ∧ Rp Γ X N ds σ'.back aM (w3.putObj (w.heap.size + 1) (.loop { r with state := .exhausted })) := by
    rintro Φ r ⟨τ, G', S, o3, g1, g2, g3, g4, ⟨m1, m2, m3⟩, g5, g6⟩ hr
    have g7 := (g2.turnL (o := .loop { r with state := .exhausted }) m1 m2 m3).backS (fun t => rfl)
    exact ⟨τ, g1, run_endLoop g6 hr, G', S, o3, g7.ctx (fun _ _ => rfl) g7.size g7.defs (fun h => (hds h).elim) g7.inv g7.st0 g7.stn g7.blt g7.ownlt g7.ownb g7.slots g7.virts⟩
  rcases hend2 with hd | ⟨e, c, he, hd⟩
  · obtain ⟨τ, k1, k2, k3⟩ := fin _ _ hd (by simp [rec0])
    exact ⟨_, _, k2, hQ _ _ _ _ (hend τ k1) k3⟩
  · obtain ⟨τ, k1, k2, k3⟩ := fin _ _ hd (by simp)
    refine ⟨_, _, k2, ?_⟩
    cases e with
    | ret => cases he; exact wpIn_ret (hQ _ _ _ _ k1 k3)
    | exit id => cases he; exact wpIn_exit (hQ _ _ _ _ k1 k3)
    | _ => cases he
end Go.Vm

namespace Go.Vm
variable {Γ : Nat → Option (List V)} {X : Ctx} {N : Nat} {ds : List Deferred} {σ σ' : VS} {a : Act} {w w' : World} {P : Program} {Sp : FuncId → List V → R → Prop} {ops : Array Oper}

def wpAnyK (F : Fence) (n : Nat) (P : Program) (ops : Array Oper) (Q : Exit → Act → World → Prop) (K : Array Bool → Act → World → Prop) : Nat → Array Bool → Act → World → Prop
  | 0, listed, a, w => Region.ready .any ops listed = [] ∧ K listed a w
  | fuel + 1, listed, a, w =>
    (Region.ready .any ops listed = [] → K listed a w) ∧
    ∀ i ∈ Region.ready .any ops listed, wpOpIn F n P ops Q i (wpAnyK F n P ops Q K fuel (listed.setIfInBounds i true)) a w

theorem drawn_any (hSp : ∀ f args r, Sp f args r → Spec P Γ f args r) {ro : Option Nat} {n : Nat} {KK : Array Bool → Act → World → Prop} {Q : Exit → Act → World → Prop} {C : VS → Prop} (h : Rp Γ X N ds σ a w) (hd : dstsB N ops.toList = true) (hk : vopsD P Γ Sp ops ops.toList [] σ C)
    (hQ : ∀ L σ' a' w', L.size = ops.size → (∀ i, i < ops.size → L.getD i true = true) → C σ' → Rp Γ X N ds σ' a' w' → KK L a' w') : wpAnyK (fr ro) n P ops Q KK ops.size (Array.replicate ops.size false) a { w with drawn := w.drawn + 1 } := by
  obtain ⟨E, hT, hI, hC⟩ := vopsD_trace hk
  have hlen : ops.size = E.length := by have := hT.len; simpa using this
  simp only [List.reverse_nil, List.nil_append] at hI
  have hI : ∀ j oj ej, ops[j]? = some oj → E[j]? = some ej → (∀ e ∈ oj.after, Region.binds .any e = true → e.on < j) ∧ ∀ i oi ei, i < j → ops[i]? = some oi → E[i]? = some ei → (waitsOn oj i = true ∨ (oi.apart ops oj = true ∧ kapart ei.tr ej.tr = true)) ∨ waits2 ops oj i = true := by
    intro j oj ej hj hej
    have hjlt : j < ops.size := by
      rcases Nat.lt_or_ge j ops.size with h | h
      · exact h
      · rw [Array.getElem?_eq_none h] at hj; cases hj
    have h1 := List.all_eq_true.1 hI j (List.mem_range.2 hjlt)
    simp only [hj, List.getElem?_map, hej, Option.map_some, Bool.and_eq_true, List.all_eq_true, List.mem_range] at h1
    refine ⟨fun e he hb => ?_, fun i oi ei hi hoi hei => ?_⟩
    · have := Array.all_eq_true'.1 h1.1 e he
      simpa [hb] using this
    · have := h1.2 i hi
      simp only [hoi, hei, Option.map_some, Bool.or_eq_true, Bool.and_eq_true] at this
      exact this
  -- two operations of which neither waits for the other
  have hap : ∀ i j oi oj ei ej, i < j → ops[i]? = some oi → ops[j]? = some oj → E[i]? = some ei → E[j]? = some ej → (∀ e ∈ oj.after, Region.binds .any e = true → e.on ≠ i) → (∀ e ∈ oj.after, Region.binds .any e = true → ∀ o', ops[e.on]? = some o' → ∀ e' ∈ o'.after, Region.binds .any e' = true → e'.on ≠ i) → oi.apart ops oj = true ∧ kapart ei.tr ej.tr = true := by
    intro i j oi oj ei ej hij hi hj hei hej hw hw2
    rcases (hI j oj ej hj hej).2 i oi ei hij hi hei with (h | h) | h
    · exfalso
      unfold waitsOn at h
      obtain ⟨e, he, hb⟩ := Array.any_eq_true'.1 h
      simp only [Bool.and_eq_true, beq_iff_eq] at hb
      exact hw e he hb.1 hb.2
    · exact h
    · exfalso
      unfold waits2 at h
      obtain ⟨e, he, hb⟩ := Array.any_eq_true'.1 h
      simp only [Bool.and_eq_true] at hb
      obtain ⟨hb1, hb2⟩ := hb
      split at hb2
      · rename_i o' ho'
        unfold waitsOn at hb2
        obtain ⟨e', he', hb'⟩ := Array.any_eq_true'.1 hb2
        simp only [Bool.and_eq_true, beq_iff_eq] at hb'
        exact hw2 e he hb1 o' ho' e' he' hb'.1 hb'.2
      · cases hb2
  have main : ∀ (fuel : Nat) (listed : Array Bool) (a : Act) (w : World), listed.size = ops.size → (∀ j oj, ops[j]? = some oj → listed.getD j false = true → ∀ e ∈ oj.after, Region.binds .any e = true → listed.getD e.on false = true) →
      ((List.range ops.size).filter fun i => !listed.getD i true).length ≤ fuel → Rp Γ X N ds (runS ops.toList E 0 (fun i => listed.getD i false) σ) a w → wpAnyK (fr ro) n P ops Q KK fuel listed a w := by
    intro fuel
    induction fuel with
    | zero =>
      intro listed a w hsz hcl hf hR
      have hall : ∀ i, i < ops.size → listed.getD i true = true := fun i hi => by
        have h0 := List.eq_nil_of_length_eq_zero (Nat.le_zero.1 hf)
        have := List.filter_eq_nil_iff.1 h0 i (List.mem_range.2 hi)
        simpa using this
      have hr : Region.ready .any ops listed = [] := by
        apply List.eq_nil_iff_forall_not_mem.2
        intro i hi
        obtain ⟨h1, o, ho, _⟩ := mem_ready.1 hi
        have hilt : i < ops.size := by
          rcases Nat.lt_or_ge i ops.size with h | h
          · exact h
          · rw [Array.getElem?_eq_none h] at ho; cases ho
        rw [hall i hilt] at h1; cases h1
      refine ⟨hr, ?_⟩
      refine hQ listed _ a w hsz hall (hC 0) ?_
      have e0 : runS ops.toList E 0 (fun i => listed.getD i false) σ = runS ops.toList E 0 (fun _ => true) σ := by
        have hg : ∀ i, i < ops.size → listed.getD i false = true := fun i hi => by
          have := hall i hi
          rw [Array.getD_eq_getD_getElem?] at this ⊢
          have : i < listed.size := by omega
          simp_all
        refine VS.same (fun t => runS_get rfl fun i o' hi hne => (hne ?_).elim) (fun κ => runS_mem rfl fun i e' hi hne => (hne ?_).elim)
        · rw [Nat.zero_add]; exact hg i (by have := (List.getElem?_eq_some_iff.1 hi).1; simpa using this)
        · rw [Nat.zero_add]; exact hg i (by have := (List.getElem?_eq_some_iff.1 hi).1; omega)
      rw [← e0]; exact hR
    | succ fuel ih =>
      intro listed a w hsz hcl hf hR
      refine ⟨fun hr => ?_, fun i hi => ?_⟩
      · have hall : ∀ i, i < ops.size → listed.getD i false = true := fun i => by
          induction i using Nat.strongRecOn with
          | _ i ihi =>
            intro hi
            cases hc : listed.getD i true with
            | true => rw [Array.getD_eq_getD_getElem?] at hc ⊢; have : i < listed.size := by omega
                      simp_all
            | false =>
              exfalso
              have ho : ops[i]? = some ops[i] := by simp [hi]
              have hei : E[i]? = some (E[i]'(by omega)) := by simp
              have : i ∈ Region.ready .any ops listed := mem_ready.2 ⟨hc, _, ho, fun e he hb => ihi e.on ((hI i _ _ ho hei).1 e he hb) (by have := (hI i _ _ ho hei).1 e he hb; omega)⟩
              rw [hr] at this; cases this
        refine hQ listed _ a w hsz (fun i hi => by
          have := hall i hi
          rw [Array.getD_eq_getD_getElem?] at this ⊢
          have : i < listed.size := by omega
          simp_all) (hC 0) ?_
        have e0 : runS ops.toList E 0 (fun i => listed.getD i false) σ = runS ops.toList E 0 (fun _ => true) σ := by
          refine VS.same (fun t => runS_get rfl fun i o' hi hne => (hne ?_).elim) (fun κ => runS_mem rfl fun i e' hi hne => (hne ?_).elim)
          · rw [Nat.zero_add]; exact hall i (by have := (List.getElem?_eq_some_iff.1 hi).1; simpa using this)
          · rw [Nat.zero_add]; exact hall i (by have := (List.getElem?_eq_some_iff.1 hi).1; omega)
        rw [← e0]; exact hR
      · obtain ⟨hun, o, ho, hwt⟩ := mem_ready.1 hi
        have hilt : i < ops.size := by
          rcases Nat.lt_or_ge i ops.size with h | h
          · exact h
          · rw [Array.getElem?_eq_none h] at ho; cases ho
        have hunf : listed.getD i false = false := by
          rw [Array.getD_eq_getD_getElem?] at hun ⊢
          have : i < listed.size := by omega
          simp_all
        obtain ⟨e, he⟩ : ∃ e, E[i]? = some e := ⟨E[i]'(by omega), by simp⟩
        have hoL : ops.toList[i]? = some o := by simpa using ho
        -- who stands before, and is not listed; who stands behind, and is
        have before : ∀ j oj ej, j < i → ops[j]? = some oj → E[j]? = some ej → listed.getD j false = false → oj.apart ops o = true ∧ kapart ej.tr e.tr = true := fun j oj ej hj hoj hej hl =>
          hap j i oj o ej e hj hoj ho hej he (fun e' he' hb heq => by
            have := hwt e' he' hb; rw [heq, hl] at this; cases this) fun e1 he1 hb1 o1 ho1 e2 he2 hb2 heq => by
            have := hcl e1.on o1 ho1 (hwt e1 he1 hb1) e2 he2 hb2; rw [heq, hl] at this; cases this
        have behind : ∀ j oj ej, i < j → ops[j]? = some oj → E[j]? = some ej → listed.getD j false = true → o.apart ops oj = true ∧ kapart e.tr ej.tr = true := fun j oj ej hj hoj hej hl =>
          hap i j o oj e ej hj ho hoj he hej (fun e' he' hb heq => by
            have := hcl j oj hoj hl e' he' hb; rw [heq, hunf] at this; cases this) fun e1 he1 hb1 o1 ho1 e2 he2 hb2 heq => by
            have := hcl e1.on o1 ho1 (hcl j oj hoj hl e1 he1 hb1) e2 he2 hb2; rw [heq, hunf] at this; cases this
        have hlt2 : ∀ {j : Nat} {oj : Oper}, ops.toList[j]? = some oj → ∃ ej, E[j]? = some ej := fun {j oj} hj => by
          have := (List.getElem?_eq_some_iff.1 hj).1
          simp only [Array.length_toList] at this
          exact ⟨E[j]'(by omega), by simp⟩
        have hlt3 : ∀ {j : Nat} {ej : Eff}, E[j]? = some ej → ∃ oj, ops[j]? = some oj := fun {j ej} hj => by
          have := (List.getElem?_eq_some_iff.1 hj).1
          exact ⟨ops[j]'(by omega), by simp⟩
        have hstep : vstep P Γ Sp ops (runS ops.toList E 0 (fun i => listed.getD i false) σ) o (fun e' => e' = e) := by
          refine Trace.at 0 hT i o e hoL he _ (fun t ht => ?_) (fun κ hκ => ?_) _ rfl
          · refine runS_get rfl fun j oj hj hne hdst => ?_
            obtain ⟨ej, hej⟩ := hlt2 hj
            have hj : ops[j]? = some oj := by simpa using hj
            simp only [Nat.zero_add] at hne
            by_cases hji : j < i
            · have hl : listed.getD j false = false := by cases hc : listed.getD j false <;> simp [hc, hji] at hne ⊢
              exact (Oper.apart_spec (before j oj ej hji hj hej hl).1).1 t hdst ht
            · have hl : listed.getD j false = true := by cases hc : listed.getD j false <;> simp [hc, hji] at hne ⊢
              have : i ≠ j := fun e0 => by subst e0; rw [hunf] at hl; cases hl
              exact (Oper.apart_spec (behind j oj ej (by omega) hj hej hl).1).2.2 t hdst ht
          · refine runS_mem rfl fun j ej hej hne x hx hxk => ?_
            obtain ⟨oj, hj⟩ := hlt3 hej
            simp only [Nat.zero_add] at hne
            by_cases hji : j < i
            · have hl : listed.getD j false = false := by cases hc : listed.getD j false <;> simp [hc, hji] at hne ⊢
              exact (kapart_spec (before j oj ej hji hj hej hl).2).1 x hx (hxk ▸ hκ)
            · have hl : listed.getD j false = true := by cases hc : listed.getD j false <;> simp [hc, hji] at hne ⊢
              have : i ≠ j := fun e0 => by subst e0; rw [hunf] at hl; cases hl
              exact (kapart_spec (behind j oj ej (by omega) hj hej hl).2).2.1 x hx (hxk ▸ hκ)
        obtain ⟨e', rfl, hs⟩ := step_sound (ops := ops) hSp hR (dsts_spec hd o (List.mem_of_getElem? hoL)) hstep
        unfold wpOpIn
        rw [ho]
        refine hs ro n _ Q fun a' w' hR' => ih (listed.setIfInBounds i true) a' w' (by simp [hsz]) ?_ ?_ ?_
        · intro j oj hj hl e1 he1 hb
          rw [getDset (by omega)] at hl ⊢
          split
          · rfl
          · split at hl
            · rename_i hji; subst hji; rw [ho] at hj; cases hj; exact hwt e1 he1 hb
            · exact hcl j oj hj hl e1 he1 hb
        · have := filter_lt (p := fun k => !listed.getD k true) (p' := fun k => !(listed.setIfInBounds i true).getD k true) (i := i) (l := List.range ops.size) (fun x _ hx => by
            rw [getDset (by omega)] at hx
            split at hx
            · cases hx
            · exact hx) (List.mem_range.2 hilt) (by simp only [hun]; rfl) (by rw [getDset (by omega)]; simp)
          omega
        · have e0 := runS_add (k := 0) (S := fun i => listed.getD i false) (σ := σ) hoL he (by simpa using hunf) fun j oj ej hj hoj hej hl => by
            have hb := behind j oj ej hj (by simpa using hoj) hej (by simpa using hl)
            exact ⟨(Oper.apart_spec hb.1).2.1, (kapart_spec hb.2).2.2⟩
          have e1 : (fun k => (listed.setIfInBounds i true).getD k false) = fun m => if m = 0 + i then true else listed.getD m false := by funext m; rw [getDset (by omega), Nat.zero_add]
          rw [e1, e0]; exact hR'
  refine main ops.size (Array.replicate ops.size false) a _ (by simp) ?_ ?_ ?_
  · intro j oj hj hl
    rw [Array.getD_eq_getD_getElem?] at hl
    by_cases hjl : j < ops.size <;> simp [hjl] at hl
  · refine Nat.le_trans (List.length_filter_le _ _) (by simp)
  · have e0 : runS ops.toList E 0 (fun i => (Array.replicate ops.size false).getD i false) σ = σ := by
      have hno : ∀ (l : List Oper) (E : List Eff) (k : Nat) (S : Nat → Bool) (σ : VS), (∀ i, S i = false) → runS l E k S σ = σ := by
        intro l
        induction l with
        | nil => intro E k S σ _; cases E <;> rfl
        | cons o r ih =>
          intro E k S σ hS
          cases E with
          | nil => rfl
          | cons e es => simp only [runS, hS k, Bool.false_eq_true, if_false]; exact ih _ _ _ _ hS
      refine hno _ _ _ _ _ fun i => ?_
      rw [Array.getD_eq_getD_getElem?]
      by_cases hjl : i < ops.size <;> simp [hjl]
    rw [e0]
    obtain ⟨G, St, own, hR⟩ := h
    exact ⟨G, St, _, hR.ext (Stp.drew _ _)⟩

def lastOk (l : Array Oper) (o : Oper) : Bool :=
  l.all (fun (x : Oper) => x.guard.isNone) && o.after.all (fun e => !Region.binds .any e || decide (e.on < l.size)) &&
  (List.range l.size).all fun i => (match l[i]? with | some x => x.after.all fun e => !Region.binds .any e || decide (e.on < i) | none => true) &&
    (((List.range l.size).any fun j => decide (i < j) && (match l[j]? with | some x => waitsOn x i | none => false)) || waitsOn o i)

theorem waitsOn_iff {o : Oper} {i : Nat} : waitsOn o i = true ↔ ∃ e ∈ o.after, Region.binds .any e = true ∧ e.on = i := by
  unfold waitsOn
  rw [Array.any_eq_true']
  constructor
  · rintro ⟨e, he, h⟩
    simp only [Bool.and_eq_true, beq_iff_eq] at h
    exact ⟨e, he, h⟩
  · rintro ⟨e, he, h1, h2⟩
    exact ⟨e, he, by simp [h1, h2]⟩

theorem lastOk_spec {l : Array Oper} {o : Oper} (h : lastOk l o = true) : (∀ (i : Nat) (x : Oper), l[i]? = some x → x.guard = none) ∧ (∀ e ∈ o.after, Region.binds .any e = true → e.on < l.size) ∧
    (∀ (i : Nat) (x : Oper), l[i]? = some x → ∀ e ∈ x.after, Region.binds .any e = true → e.on < i) ∧ ∀ i, i < l.size → (∃ (j : Nat) (x : Oper), i < j ∧ l[j]? = some x ∧ waitsOn x i = true) ∨ waitsOn o i = true := by
  unfold lastOk at h
  simp only [Bool.and_eq_true] at h
  obtain ⟨⟨h1, h2⟩, h3⟩ := h
  refine ⟨fun i x hx => ?_, fun e he hb => ?_, fun i x hx e he hb => ?_, fun i hi => ?_⟩
  · have := Array.all_eq_true'.1 h1 x (Array.mem_of_getElem? hx)
    simpa using this
  · have := Array.all_eq_true'.1 h2 e he
    simpa [hb] using this
  · have hi : i < l.size := (Array.getElem?_eq_some_iff.1 hx).1
    have := List.all_eq_true.1 h3 i (List.mem_range.2 hi)
    simp only [hx, Bool.and_eq_true] at this
    have := Array.all_eq_true'.1 this.1 e he
    simpa [hb] using this
  · have := List.all_eq_true.1 h3 i (List.mem_range.2 hi)
    simp only [Bool.and_eq_true, Bool.or_eq_true] at this
    rcases this.2 with h | h
    · obtain ⟨j, _, hj⟩ := List.any_eq_true.1 h
      simp only [Bool.and_eq_true, decide_eq_true_eq] at hj
      cases hx : l[j]? with
      | none => rw [hx] at hj; cases hj.2
      | some x => rw [hx] at hj; exact .inl ⟨j, x, hj.1, hx, hj.2⟩
    · exact .inr h

theorem done_any {F : Fence} {n : Nat} {Q : Exit → Act → World → Prop} {K : Act → World → Prop} {L : Array Bool} (hL : ∀ i, i < ops.size → L.getD i true = true) (fuel : Nat) (a : Act) (w : World) (h : K a w) : wpAnyK F n P ops Q (fun _ => K) fuel L a w := by
  have hr : Region.ready .any ops L = [] := by
    apply List.eq_nil_iff_forall_not_mem.2
    intro i hi
    obtain ⟨h1, o, ho, _⟩ := mem_ready.1 hi
    have hilt : i < ops.size := (Array.getElem?_eq_some_iff.1 ho).1
    rw [hL i hilt] at h1; cases h1
  cases fuel with
  | zero => exact ⟨hr, h⟩
  | succ fuel => exact ⟨fun _ => h, fun i hi => by rw [hr] at hi; cases hi⟩

theorem anyK_in {F : Fence} {n : Nat} {Q : Exit → Act → World → Prop} : ∀ {fuel : Nat} {L : Array Bool} {a : Act} {w : World}, wpAnyK F n P ops Q (fun _ => Q .normal) fuel L a w → wpAnyIn F n P .any ops Q fuel L a w
  | 0, _, _, _, h => h
  | fuel + 1, _, _, _, h => ⟨h.1, fun i hi => wpOpIn_mono (fun _ _ h => anyK_in h) (h.2 i hi)⟩

theorem getDpush {L : Array Bool} {i : Nat} {b d : Bool} : (L.push b).getD i d = if i = L.size then b else L.getD i d := by
  simp only [Array.getD_eq_getD_getElem?, Array.getElem?_push]
  split <;> simp

theorem anyK_last {F : Fence} {n : Nat} {Q : Exit → Act → World → Prop} {K' : Act → World → Prop} {l : Array Oper} {o : Oper} (hlast : lastOk l o = true) (ho : o.guard = none) : ∀ (fuel : Nat) (L : Array Bool) (a : Act) (w : World), L.size = l.size → (∀ j oj, l[j]? = some oj → L.getD j false = true → ∀ e ∈ oj.after, Region.binds .any e = true → L.getD e.on false = true) →
    wpAnyK F n P l Q (fun _ a w => o.wpIn F n P a w K' Q) fuel L a w → wpAnyK F n P (l.push o) Q (fun _ => K') (fuel + 1) (L.push false) a w := by
  obtain ⟨hg, hol, hfw, hre⟩ := lastOk_spec hlast
  intro fuel L a w hsz hcl
  -- the last one is ready when all else is listed
  have lastR : ∀ L : Array Bool, L.size = l.size → Region.ready .any l L = [] → Region.ready .any (l.push o) (L.push false) ≠ [] := fun L hsz hr hr' => by
    have hall : ∀ i, i < l.size → L.getD i false = true := fun i => by
      induction i using Nat.strongRecOn with
      | _ i ihi =>
        intro hi
        cases hc : L.getD i true with
        | true => rw [Array.getD_eq_getD_getElem?] at hc ⊢; have : i < L.size := by omega
                  simp_all
        | false =>
          exfalso
          have hx : l[i]? = some l[i] := by simp [hi]
          have : i ∈ Region.ready .any l L := mem_ready.2 ⟨hc, _, hx, fun e he hb => ihi e.on (hfw i _ hx e he hb) (by have := hfw i _ hx e he hb; omega)⟩
          rw [hr] at this; cases this
    have : l.size ∈ Region.ready .any (l.push o) (L.push false) := mem_ready.2 ⟨by rw [getDpush, if_pos hsz.symm], o, by simp, fun e he hb => by
      have := hol e he hb
      rw [getDpush, if_neg (by omega)]; exact hall _ this⟩
    rw [hr'] at this; cases this
  have liftR : ∀ L : Array Bool, L.size = l.size → ∀ i, i ∈ Region.ready .any l L → i ∈ Region.ready .any (l.push o) (L.push false) := fun L hsz i hi => by
    obtain ⟨h1, x, hx, h2⟩ := mem_ready.1 hi
    have hi : i < l.size := (Array.getElem?_eq_some_iff.1 hx).1
    refine mem_ready.2 ⟨by rw [getDpush, if_neg (by omega)]; exact h1, x, by rw [Array.getElem?_push, if_neg (by omega)]; exact hx, fun e he hb => ?_⟩
    have := hfw i x hx e he hb
    rw [getDpush, if_neg (by omega)]; exact h2 e he hb
  -- it is ready only then
  have lastO : ∀ L : Array Bool, L.size = l.size → (∀ j oj, l[j]? = some oj → L.getD j false = true → ∀ e ∈ oj.after, Region.binds .any e = true → L.getD e.on false = true) → l.size ∈ Region.ready .any (l.push o) (L.push false) → ∀ i, i < l.size → L.getD i false = true := fun L hsz hcl hr => by
    obtain ⟨h1, x, hx, h2⟩ := mem_ready.1 hr
    rw [Array.getElem?_push, if_pos rfl] at hx
    cases hx
    have key : ∀ d i, i < l.size → l.size - i ≤ d → L.getD i false = true := by
      intro d
      induction d with
      | zero => intro i hi hd; omega
      | succ d ihd =>
        intro i hi hd
        rcases hre i hi with ⟨j, y, hij, hy, hw⟩ | hw
        · have hj : j < l.size := (Array.getElem?_eq_some_iff.1 hy).1
          obtain ⟨e, he, hb, rfl⟩ := waitsOn_iff.1 hw
          exact hcl j y hy (ihd j hj (by omega)) e he hb
        · obtain ⟨e, he, hb, rfl⟩ := waitsOn_iff.1 hw
          have := h2 e he hb
          rw [getDpush, if_neg (by omega)] at this
          exact this
    exact fun i hi => key _ i hi (Nat.le_refl _)
  have lastGo : ∀ (L : Array Bool) (fuel : Nat) (a : Act) (w : World), L.size = l.size → (∀ i, i < l.size → L.getD i false = true) → o.wpIn F n P a w K' Q → wpOpIn F n P (l.push o) Q l.size (wpAnyK F n P (l.push o) Q (fun _ => K') fuel ((L.push false).setIfInBounds l.size true)) a w := fun L fuel a w hsz hall h => by
    unfold wpOpIn
    rw [show (l.push o)[l.size]? = some o by simp]
    simp only []
    rw [if_pos (by unfold Region.wanted; rw [ho])]
    refine Oper.wpIn_mono (fun a' w' h' => done_any (fun i hi => ?_) fuel a' w' h') h
    rw [getDset (by simp; omega)]
    split
    · rfl
    · rename_i hne
      simp only [Array.size_push] at hi
      rw [getDpush, if_neg (by omega)]
      have := hall i (by omega)
      rw [Array.getD_eq_getD_getElem?] at this ⊢
      have : i < L.size := by omega
      simp_all
  have allE : ∀ L : Array Bool, L.size = l.size → (∀ i, i < l.size → L.getD i false = true) → Region.ready .any l L = [] := fun L hsz hall => by
    apply List.eq_nil_iff_forall_not_mem.2
    intro i hi
    obtain ⟨h1, x, hx, _⟩ := mem_ready.1 hi
    have hi : i < l.size := (Array.getElem?_eq_some_iff.1 hx).1
    have := hall i hi
    rw [Array.getD_eq_getD_getElem?] at this h1
    have : i < L.size := by omega
    simp_all
  have caseI : ∀ {L : Array Bool} {i : Nat}, L.size = l.size → i ∈ Region.ready .any (l.push o) (L.push false) → i ≠ l.size → i < l.size ∧ i ∈ Region.ready .any l L := fun {L i} hsz hi hne => by
    obtain ⟨h1, x, hx, h2⟩ := mem_ready.1 hi
    have hil : i < l.size := by have := (Array.getElem?_eq_some_iff.1 hx).1; simp at this; omega
    rw [getDpush, if_neg (by omega)] at h1
    rw [Array.getElem?_push, if_neg (by omega)] at hx
    refine ⟨hil, mem_ready.2 ⟨h1, x, hx, fun e he hb => ?_⟩⟩
    have h3 := h2 e he hb
    have := hfw i x hx e he hb
    rw [getDpush, if_neg (by omega)] at h3
    exact h3
  induction fuel generalizing L a w with
  | zero =>
    rintro ⟨hr, hK⟩
    refine ⟨fun h => (lastR L hsz hr h).elim, fun i hi => ?_⟩
    by_cases hne : i = l.size
    · subst hne
      exact lastGo L 0 a w hsz (lastO L hsz hcl hi) hK
    · have := (caseI hsz hi hne).2
      rw [hr] at this; cases this
  | succ fuel ih =>
    rintro ⟨hK, hn⟩
    refine ⟨fun h => ?_, fun i hi => ?_⟩
    · by_cases hr : Region.ready .any l L = []
      · exact (lastR L hsz hr h).elim
      · obtain ⟨i, hi⟩ := List.exists_mem_of_ne_nil _ hr
        have := liftR L hsz i hi
        rw [h] at this; cases this
    · by_cases hne : i = l.size
      · subst hne
        have hall := lastO L hsz hcl hi
        exact lastGo L _ a w hsz hall (hK (allE L hsz hall))
      · obtain ⟨hil, hi'⟩ := caseI hsz hi hne
        have h1 := hn i hi'
        obtain ⟨_, x, hx, hw⟩ := mem_ready.1 hi'
        unfold wpOpIn at h1 ⊢
        rw [Array.getElem?_push, if_neg (by omega), hx]
        rw [hx] at h1
        simp only [] at h1 ⊢
        have hgx := hg i x hx
        rw [if_pos (by unfold Region.wanted; rw [hgx])] at h1 ⊢
        refine Oper.wpIn_mono (fun a' w' h' => ?_) h1
        have e0 : (L.push false).setIfInBounds i true = (L.setIfInBounds i true).push false := by
          apply Array.ext_getElem?
          intro j
          simp only [Array.getElem?_setIfInBounds, Array.getElem?_push, Array.size_push, Array.size_setIfInBounds]
          by_cases hj : i = j
          · subst hj
            have k1 : i ≠ L.size := by omega
            have k2 : i < L.size := by omega
            have k3 : i < L.size + 1 := by omega
            simp only [if_true, k1, k2, k3, if_false]
          · simp only [hj, if_false]
        rw [e0]
        refine ih (L.setIfInBounds i true) a' w' (by simp [hsz]) ?_ h'
        intro j oj hj hl e1 he1 hb
        rw [getDset (by omega)] at hl ⊢
        split
        · rfl
        · split at hl
          · rename_i hji; subst hji; rw [hx] at hj; cases hj; exact hw e1 he1 hb
          · exact hcl j oj hj hl e1 he1 hb

def tailOk : List Oper → List Oper → Bool
  | _, [] => true
  | l, o :: r => lastOk l.toArray o && o.guard.isNone && tailOk (l ++ [o]) r
def tailK (F : Fence) (n : Nat) (P : Program) (Q : Exit → Act → World → Prop) (K : Act → World → Prop) : List Oper → Act → World → Prop
  | [], a, w => K a w
  | o :: r, a, w => o.wpIn F n P a w (tailK F n P Q K r) Q
theorem new_closed {l : Array Oper} : ∀ (j : Nat) (oj : Oper), l[j]? = some oj → (Array.replicate l.size false).getD j false = true → ∀ e ∈ oj.after, Region.binds .any e = true → (Array.replicate l.size false).getD e.on false = true := fun j oj hj hl => by
  exfalso
  rw [Array.getD_eq_getD_getElem?] at hl
  have hjl : j < l.size := (Array.getElem?_eq_some_iff.1 hj).1
  rw [Array.getElem?_replicate, if_pos hjl] at hl
  cases hl
theorem tail_any {F : Fence} {n : Nat} {Q : Exit → Act → World → Prop} {K : Act → World → Prop} : ∀ {r l : List Oper} {a : Act} {w : World}, tailOk l r = true → wpAnyK F n P l.toArray Q (fun _ => tailK F n P Q K r) l.length (Array.replicate l.length false) a w → wpAnyK F n P (l ++ r).toArray Q (fun _ => K) (l ++ r).length (Array.replicate (l ++ r).length false) a w
  | [], l, a, w, _, h => by rw [List.append_nil]; exact h
  | o :: r, l, a, w, hk, h => by
    simp only [tailOk, Bool.and_eq_true] at hk
    have h1 := anyK_last (P := P) (K' := tailK F n P Q K r) hk.1.1 (by simpa using hk.1.2) l.length (Array.replicate l.length false) a w (by simp) (by have := new_closed (l := l.toArray); simpa using this) h
    have e1 : (l ++ [o]).toArray = l.toArray.push o := by simp
    have h2 := tail_any (K := K) (r := r) (l := l ++ [o]) (a := a) (w := w) hk.2 (by rw [e1, List.length_append, List.length_singleton, Array.replicate_succ]; exact h1)
    rw [List.append_assoc] at h2
    exact h2
theorem wanted_none {o : Oper} {y : Nat → Option Bool} (h : o.guard = none) : Region.wanted o y = true := by unfold Region.wanted; rw [h]
theorem tail_list (hSp : ∀ f args r, Sp f args r → Spec P Γ f args r) {ro : Option Nat} {n : Nat} {Q : Exit → Act → World → Prop} {C : VS → Prop} {l : List Oper} : ∀ {σ : VS} {a : Act} {w : World}, Rp Γ X N ds σ a w → (∀ o ∈ l, ∀ d, o.dst = some d → d < N) → (∀ o ∈ l, o.guard = none) → vops P Γ Sp ops l σ C →
    (∀ σ' a' w', C σ' → Rp Γ X N ds σ' a' w' → Q .normal a' w') → tailK (fr ro) n P Q (Q .normal) l a w := by
  induction l with
  | nil => intro σ a w h _ _ hk hQ; exact hQ _ _ _ hk h
  | cons o r ih =>
    intro σ a w h hd hg hk hQ
    simp only [vops] at hk
    obtain ⟨e, hK, hs⟩ := step_sound (ops := ops) hSp h (hd o (by simp)) hk
    have h1 := hs ro n (tailK (fr ro) n P Q (Q .normal) r) Q fun a' w' h' => ih h' (fun o ho => hd o (List.mem_cons_of_mem _ ho)) (fun o ho => hg o (List.mem_cons_of_mem _ ho)) hK hQ
    rw [if_pos (wanted_none (hg o (by simp)))] at h1
    exact h1
theorem tailOk_g : ∀ {r l : List Oper}, tailOk l r = true → ∀ o ∈ r, o.guard = none
  | [], _, _, x, hx => by cases hx
  | o :: r, l, h, x, hx => by
    simp only [tailOk, Bool.and_eq_true] at h
    rcases List.mem_cons.1 hx with rfl | hx
    · simpa using h.1.2
    · exact tailOk_g h.2 x hx

def vydrawn (P : Program) (Γ : Nat → Option (List V)) (Sp : FuncId → List V → R → Prop) (Yp : Nat → Nat → List V → Prop) (ops : Array Oper) (σ : VS) (K : VS → Prop) : Prop :=
  ∃ l1 o l2, ops.toList = l1 ++ o :: l2 ∧ tailOk l1 (o :: l2) = true ∧ vopsD P Γ Sp l1.toArray l1 [] σ fun σ1 => vyl P Γ Yp o σ1 fun σ2 => vops P Γ Sp ops l2 σ2 K

theorem ydrawn_sound (hSp : ∀ f args r, Sp f args r → Spec P Γ f args r) (hm : P.follows .mixedOrders = true) {Yp : Nat → Nat → List V → Prop} (hY : Yields P X Yp) {ro : Option Nat} {n id : Nat} {Q : Exit → Act → World → Prop} {C : VS → Prop} (h : Rp Γ X N ds σ a w) (hd : dstsB N ops.toList = true) (hk : vydrawn P Γ Sp Yp ops σ C)
    (hQ : ∀ σ' a' w', C σ' → Rp Γ X N ds σ' a' w' → Q .normal a' w') : (Code.region id ops true).wpIn (fr ro) n P Q a w := by
  obtain ⟨l1, o, l2, hl, hlast, hk⟩ := hk
  have hops : ops = (l1 ++ o :: l2).toArray := by
    apply Array.ext'
    rw [hl]
  have hg := tailOk_g hlast
  have hds := dsts_spec hd
  refine wpIn_region_any hm (anyK_in ?_)
  have hd1 : dstsB N l1.toArray.toList = true := by
    unfold dstsB at hd ⊢
    rw [hl, List.all_append, Bool.and_eq_true] at hd
    exact hd.1
  have h1 := drawn_any (ro := ro) (n := n) (KK := fun _ => tailK (fr ro) n P Q (Q .normal) (o :: l2)) (Q := Q) (ops := l1.toArray) hSp h hd1 hk fun L σ' a' w' _ _ hC hR =>
    yield_sound hY hR (fun d hdd => hds o (by rw [hl]; simp) d hdd) hC ro n _ Q fun σ2 a2 w2 hC2 hR2 =>
      tail_list hSp hR2 (fun x hx => hds x (by rw [hl]; simp [hx])) (fun x hx => hg x (List.mem_cons_of_mem _ hx)) hC2 hQ
  have h2 := tail_any (P := P) (K := Q .normal) (r := o :: l2) (l := l1) hlast (by simpa using h1)
  rw [hops]
  simpa using h2
end Go.Vm

namespace Go.Vm
variable {Γ : Nat → Option (List V)} {X : Ctx} {N : Nat} {ds : List Deferred} {σ τ : VS} {a : Act} {w w' : World} {G G' : GG} {St St' : Nat → Nat → Prop} {own : Nat → Prop} {P : Program} {Sp : FuncId → List V → R → Prop} {ops : Array Oper}

def thenV (K : VS → Prop) (Q : Exit → VS → Prop) : Exit → VS → Prop
  | .normal, σ => K σ
  | e, σ => Q e σ
def blockV (id : Nat) (Q : Exit → VS → Prop) : Exit → VS → Prop
  | .exit id', σ => if id' = id then Q .normal σ else Q (.exit id') σ
  | e, σ => Q e σ
def vcode (P : Program) (Γ : Nat → Option (List V)) (Sp : FuncId → List V → R → Prop) (Yp : Nat → Nat → List V → Prop) : Code → (Exit → VS → Prop) → VS → Prop
  | .skip, Q, σ => Q .normal σ
  | .region _ ops false, Q, σ => vops P Γ Sp ops ops.toList σ (Q .normal) ∨ vyreg P Γ Sp Yp ops σ (Q .normal)
  | .region _ ops true, Q, σ => vopsD P Γ Sp ops ops.toList [] σ (Q .normal) ∨ vydrawn P Γ Sp Yp ops σ (Q .normal)
  | .seq x y, Q, σ => vcode P Γ Sp Yp x (thenV (fun σ => vsay (vcode P Γ Sp Yp y Q) σ) Q) σ
  | .cond c x y, Q, σ => vbool (σ.ev Γ c) (vcode P Γ Sp Yp x Q σ) (vcode P Γ Sp Yp y Q σ)
  | .block id c, Q, σ => vcode P Γ Sp Yp c (blockV id Q) σ
  | .loop c, Q, σ => ∃ (I : Nat → VS → Prop) (n0 : Nat) (σ0 : VS), (σ = σ0 ∨ WkS σ σ0) ∧ I n0 σ0 ∧ ∀ n σ', I n σ' → vcode P Γ Sp Yp c (thenV (fun σ2 => ∃ m σ3, (σ2 = σ3 ∨ WkS σ2 σ3) ∧ I m σ3 ∧ m < n) Q) σ'
  | .exit id, Q, σ => Q (.exit id) σ
  | .ret, Q, σ => Q .ret σ
  | .rangeFunc g ps assign body, Q, σ => Yp = noY ∧ vrange P Γ (vcode P Γ Sp Yp assign) (vcode P Γ Sp Yp body) g ps Q σ
  | _, _, _ => False

def hasR : Code → Bool
  | .seq x y => hasR x || hasR y
  | .cond _ x y => hasR x || hasR y
  | .block _ c => hasR c
  | .loop c => hasR c
  | .rangeFunc .. => true
  | _ => false

def codeDsts (N : Nat) : Code → Bool
  | .region _ ops _ => dstsB N ops.toList
  | .seq x y => codeDsts N x && codeDsts N y
  | .cond _ x y => codeDsts N x && codeDsts N y
  | .block _ c => codeDsts N c
  | .loop c => codeDsts N c
  | .rangeFunc _ ps assign body => (ps.toList.all fun t => decide (t < N)) && codeDsts N assign && codeDsts N body && !hasR assign && !hasR body
  | _ => true

theorem Rp.weaken' (h : Rp Γ X N ds σ a w) (hw : σ = τ ∨ WkS σ τ) : Rp Γ X N ds τ a w := by
  rcases hw with rfl | hw
  · exact h
  · exact h.weaken hw

theorem code_sound {Yp : Nat → Nat → List V → Prop} (hSp : ∀ f args r, Sp f args r → Spec P Γ f args r) (hm : P.follows .mixedOrders = true) : ∀ (c : Code) {X : Ctx} {ds : List Deferred} {ro : Option Nat} {n : Nat} {Q : Exit → Act → World → Prop} {C : Exit → VS → Prop} {σ : VS} {a : Act} {w : World}, (hasR c = true → ro = none ∧ ds ≠ []) → Yields P X Yp → codeDsts N c = true → Rp Γ X N ds σ a w → vcode P Γ Sp Yp c C σ →
    (∀ e σ' a' w', C e σ' → Rp Γ X N ds σ' a' w' → Q e a' w') → c.wpIn (fr ro) n P Q a w
  | .skip, X, ds, ro, n, Q, C, σ, a, w, hr, hY, hd, h, hk, hQ => wpIn_skip (hQ _ _ _ _ hk h)
  | .region id ⟨l⟩ false, X, ds, ro, n, Q, C, σ, a, w, hr, hY, hd, h, hk, hQ => by
    rcases hk with hk | hk
    · exact region_sound hSp h hd hk fun σ' a' w' hc hr => hQ _ _ _ _ hc hr
    · exact yregion_sound hSp hY h hd hk fun σ' a' w' hc hr => hQ _ _ _ _ hc hr
  | .region id ops true, X, ds, ro, n, Q, C, σ, a, w, hr, hY, hd, h, hk, hQ => by
    rcases hk with hk | hk
    · exact drawn_sound hSp hm h hd hk fun σ' a' w' hc hr => hQ _ _ _ _ hc hr
    · exact ydrawn_sound hSp hm hY h hd hk fun σ' a' w' hc hr => hQ _ _ _ _ hc hr
  | .seq x y, X, ds, ro, n, Q, C, σ, a, w, hr, hY, hd, h, hk, hQ => by
    simp only [codeDsts, Bool.and_eq_true] at hd
    simp only [hasR, Bool.or_eq_true] at hr
    refine wpIn_seq (code_sound hSp hm x (fun h => hr (.inl h)) hY hd.1 h hk fun e σ' a' w' hc hr' => ?_)
    cases e with
    | normal =>
      rcases hc with hc | ⟨τ, hw, hc⟩
      · exact code_sound hSp hm y (fun h => hr (.inr h)) hY hd.2 hr' hc hQ
      · exact code_sound hSp hm y (fun h => hr (.inr h)) hY hd.2 (hr'.weakenA hw) hc hQ
    | _ => exact hQ _ _ _ _ hc hr'
  | .cond c x y, X, ds, ro, n, Q, C, σ, a, w, hr, hY, hd, h, hk, hQ => by
    simp only [codeDsts, Bool.and_eq_true] at hd
    simp only [hasR, Bool.or_eq_true] at hr
    simp only [vcode, vbool] at hk
    split at hk
    · rename_i b hb
      have hv : a.eval c = .bool b := by
        obtain ⟨G, St, own, h⟩ := h
        have := h.ev (Γ := Γ) c
        rw [hb] at this
        exact pbool this
      cases b with
      | true => exact wpIn_cond_true hv (code_sound hSp hm x (fun h => hr (.inl h)) hY hd.1 h (hk.1 rfl) hQ)
      | false => exact wpIn_cond_false hv (code_sound hSp hm y (fun h => hr (.inr h)) hY hd.2 h (hk.2 rfl) hQ)
    · exact hk.elim
  | .block id c, X, ds, ro, n, Q, C, σ, a, w, hr, hY, hd, h, hk, hQ => by
    refine wpIn_block (code_sound hSp hm c hr hY hd h hk fun e σ' a' w' hc hr => ?_)
    cases e with
    | exit id' =>
      simp only [blockV] at hc
      simp only [Exit.inBlock]
      split at hc
      · rename_i e; rw [if_pos e]; exact hQ _ _ _ _ hc hr
      · rename_i e; rw [if_neg e]; exact hQ _ _ _ _ hc hr
    | _ => exact hQ _ _ _ _ hc hr
  | .loop c, X, ds, ro, n, Q, C, σ, a, w, hr, hY, hd, h, hk, hQ => by
    simp only [vcode] at hk
    obtain ⟨I, n0, σ0, hw, h0, hround⟩ := hk
    refine wpIn_loop_ghost (fun m a w => ∃ σ', I m σ' ∧ Rp Γ X N ds σ' a w) n0 ⟨σ0, h0, h.weaken' hw⟩ ?_
    rintro m a' w' ⟨σ', hI, hR⟩
    refine code_sound hSp hm c hr hY hd hR (hround m σ' hI) fun e σ2 a2 w2 hc hr => ?_
    cases e with
    | normal =>
      obtain ⟨m', σ3, hw3, hI3, hlt⟩ := hc
      exact ⟨m', hlt, σ3, hI3, hr.weaken' hw3⟩
    | _ => exact hQ _ _ _ _ hc hr
  | .exit id, X, ds, ro, n, Q, C, σ, a, w, hr, hY, hd, h, hk, hQ => wpIn_exit (hQ _ _ _ _ hk h)
  | .ret, X, ds, ro, n, Q, C, σ, a, w, hr, hY, hd, h, hk, hQ => wpIn_ret (hQ _ _ _ _ hk h)
  | .rangeFunc g ps assign body, X, ds, ro, n, Q, C, σ, a, w, hr, hY, hd, h, hk, hQ => by
    obtain ⟨rfl, hds⟩ := hr rfl
    simp only [codeDsts, Bool.and_eq_true, Bool.not_eq_true'] at hd
    obtain ⟨⟨⟨⟨d1, d2⟩, d3⟩, d4⟩, d5⟩ := hd
    obtain ⟨hyn, hk⟩ := hk
    subst hyn
    refine range_sound (fun X l n Q C σ a w h hk hQ => code_sound hSp hm assign (fun h => by rw [d4] at h; cases h) yields_no d2 h hk hQ) (fun X l n Q C σ a w h hk hQ => code_sound hSp hm body (fun h => by rw [d5] at h; cases h) yields_no d3 h hk hQ) (fun t ht => by have := List.all_eq_true.1 d1 t ht; simpa using this) h hds hk hQ
  | .scope _, X, ds, ro, n, Q, C, σ, a, w, hr, hY, hd, h, hk, hQ => hk.elim
  | .label _, X, ds, ro, n, Q, C, σ, a, w, hr, hY, hd, h, hk, hQ => hk.elim
  | .goto _, X, ds, ro, n, Q, C, σ, a, w, hr, hY, hd, h, hk, hQ => hk.elim
  | .refuse _, X, ds, ro, n, Q, C, σ, a, w, hr, hY, hd, h, hk, hQ => hk.elim
end Go.Vm

namespace Go.Vm
variable {Γ : Nat → Option (List V)} {X : Ctx} {N : Nat} {ds : List Deferred} {σ τ : VS} {a : Act} {w w' : World} {G G' : GG} {St St' : Nat → Nat → Prop} {own : Nat → Prop} {P : Program} {Sp : FuncId → List V → R → Prop} {ops : Array Oper}

def vresL (P : Program) (σ : VS) : List ResultVar → (List L → Prop) → Prop
  | [], K => K []
  | .tmp t :: r, K => vresL P σ r fun ls => K (σ.get t :: ls)
  | .cell a t :: r, K => match σ.get a with
    | .own s 0 => vload P σ t (.own s 0) fun e => vresL P σ r fun ls => K (e.val :: ls)
    | _ => False
def rOf : List V → R
  | [x] => .one (.c (.p x))
  | xs => .tup (xs.map fun x => .c (.p x))
def vret (P : Program) (rs : List ResultVar) (r : R) (σ : VS) : Prop := vresL P σ rs fun ls => wantO (pubWith (pub1 σ) ls) fun q => r = rOf q.vs
def vexit (P : Program) (rs : List ResultVar) (r : R) : Exit → VS → Prop
  | .normal, σ => vret P rs r σ
  | .ret, σ => vret P rs r σ
  | _, _ => False

def resSem (tmps : Array Value) : ResultVar → Sem Value
  | .tmp t => pure (tmps.getD t undef)
  | .cell a t => do loadVar t (← asAddr (tmps.getD a undef))
theorem vresL_run (h : RepD Γ X N ds σ a w G St own) : ∀ {rs : List ResultVar} {C : List L → Prop}, vresL P σ rs C → ∃ ls vs, C ls ∧ (rs.mapM (resSem a.tmps)).run P w = .ok vs w ∧ repLs σ.mem G St (rdW w) ls vs
  | [], C, hk => ⟨[], [], hk, rfl, by simp only [repLs]⟩
  | .tmp t :: r, C, hk => by
    simp only [vresL] at hk
    obtain ⟨ls, vs, h1, h2, h3⟩ := vresL_run h hk
    refine ⟨_, a.tmps.getD t undef :: vs, h1, ?_, ?_⟩
    · rw [List.mapM_cons]
      simp only [Sem.run_bind, resSem, Sem.run_pure, Result.andThen_ok, h2]
    · simp only [repLs]; exact ⟨_, _, rfl, h.slots t, h3⟩
  | .cell b t :: r, C, hk => by
    simp only [vresL] at hk
    split at hk
    · rename_i s hs
      have hsl := h.slots b
      rw [hs] at hsl
      obtain ⟨e, u, hK, hw, hr, hv⟩ := h.load hsl hk
      obtain ⟨ls, vs, h1, h2, h3⟩ := vresL_run h hK
      simp only [repLv] at hsl
      rw [hsl.1] at hr
      refine ⟨_, u :: vs, h1, ?_, by simp only [repLs]; exact ⟨_, _, rfl, hv, h3⟩⟩
      have hr' : (loadVar t ⟨G.bk s, 0, none⟩).run P w = .ok u w := by simpa only [Instr.loadAt, Instr.sureAddr, Sem.run_bind, Sem.run_pure, Result.andThen_ok, pure_bind] using hr
      rw [List.mapM_cons]
      simp only [Sem.run_bind, resSem, hsl.1, asAddr, Sem.run_pure, Result.andThen_ok, hr', h2]
    · exact hk.elim

theorem results_run {fn : Func} {vs : List Value} {rs : List ResultVar} (hr : fn.results = rs.toArray) {ts : Array Value} (h : (rs.mapM (resSem ts)).run P w = .ok vs w) :
    (results fn ts).run P w = .ok (if h : vs.length = 1 then vs[0] else .tuple vs.toArray) w := by
  have e : fn.results.mapM (resSem ts) = (do return (← rs.mapM (resSem ts)).toArray) := by
    rw [hr, Array.mapM_eq_mapM_toList]
    simp
  have e2 : results fn ts = (do let vs ← fn.results.mapM (resSem ts); pure (if h : vs.size = 1 then vs[0] else .tuple vs)) := by
    unfold results
    congr 2
  rw [e2, e]
  simp only [Sem.run_bind, h, Result.andThen_ok, Sem.run_pure]
  by_cases h1 : vs.length = 1 <;> simp [h1]

def callX (St0 : Nat → Nat → Prop) (w0 : World) : Ctx where
  I := fun _ own _ w => RowKit.Below w0.heap.size w0 w ∧ ∀ b, own b → w0.heap.size ≤ b
  St0 := St0
  B := w0.heap.size
  kv := fun _ => undef
  step := by
    rintro _ own _ w _ w' ⟨h1, h2⟩ hs _ _
    refine ⟨h1.trans ⟨hs.os, hs.tape, hs.output, hs.size, fun k hk => hs.block k (by have := h1.size; omega) fun ho => by have := h2 k ho; omega⟩, fun b hb => ?_⟩
    rcases hb with hb | hb
    · exact h2 b hb
    · have := h1.size; omega

def argsG : Nat → List V → List (Nat × L)
  | _, [] => []
  | i, x :: xs => (i, .p x) :: argsG (i + 1) xs

theorem argsG_look {v : V → Prop} : ∀ {xs : List V} {i t : Nat}, lookG t (argsG i xs) = match (if i ≤ t then xs[t - i]? else none) with | some x => .p x | none => .dead
  | [], i, t => by simp [argsG, lookG]
  | x :: xs, i, t => by
    simp only [argsG, lookG]
    by_cases h : t = i
    · subst h; simp
    · rw [if_neg h, argsG_look (v := v)]
      by_cases h2 : i ≤ t
      · rw [if_pos h2, if_pos (by omega), show t - i = (t - (i + 1)) + 1 by omega]; simp
      · rw [if_neg h2, if_neg (by omega)]

theorem repT_R1s {B : Nat} : ∀ {xs : List V} {vs : List Value}, repT St (rdW w) xs vs → repR1s St w B (xs.map fun x => .c (.p x)) vs []
  | [], vs, h => by simp only [repT] at h; subst h; simp [repR1s]
  | x :: xs, vs, h => by
    simp only [repT] at h
    obtain ⟨v, r, rfl, p, q⟩ := h
    simp only [List.map_cons, repR1s]
    exact ⟨v, r, [], [], rfl, rfl, ⟨p, rfl⟩, repT_R1s q⟩

theorem leaves_marks {fn : Func} {F : Fence} {n : Nat} {R : Ending → World → Prop} {tmps : Array Value} : ∀ {D : List Deferred} {w : World}, RepD Γ X N [] σ ⟨tmps, []⟩ w G St own → D.Nodup → (∀ d ∈ D, ∃ r, d = ⟨.collected r, #[]⟩ ∧ w.heap[r]? = some (.deferred (some [])) ∧ own r ∧ (∀ t, blkOf σ.mem G t ≠ some r) ∧ ∀ o, ¬ St r o) →
    (∀ w', RepD Γ X N [] σ ⟨tmps, []⟩ w' G St own → ∃ v, (results fn tmps).run P w' = .ok v w' ∧ R (.returned v) w') → LeavesInM F n P fn tmps R D .returning w
  | [], w, h, _, _, hR => hR w h
  | d :: D, w, h, hn, hD, hR => by
    obtain ⟨r, rfl, h1, h2, h3, h4⟩ := hD d (by simp)
    obtain ⟨hn1, hn2⟩ := List.nodup_cons.1 hn
    refine ⟨by simp, .inl ⟨r, _, rfl, run_takeDeferred h1, leaves_marks (h.turnL h2 h3 h4) hn2 (fun d hd => ?_) hR⟩⟩
    obtain ⟨r', rfl, k1, k⟩ := hD d (List.mem_cons_of_mem _ hd)
    have hne : r' ≠ r := fun e => hn1 (e ▸ hd)
    exact ⟨r', rfl, by rw [World.putObj_heap_other hne]; exact k1, k⟩

theorem ownM_nil : ownM own [] = own := by
  funext b; apply propext; unfold ownM mkD
  exact ⟨fun h => h.elim id fun h => (by cases h), .inl⟩

theorem calls_of {f : FuncId} {fn : Func} {c : Code} {args : List V} {vs : List Value} {ms : List (Key × M)} {R : Ending → World → Prop} {C : Exit → VS → Prop} {Yp : Nat → Nat → List V → Prop} (hm : P.follows .mixedOrders = true) (hSp : ∀ f args r, Sp f args r → Spec P Γ f args r) (hY : Yields P X Yp) (hf : P.funcs[f]? = some fn) (hb : fn.body = some c)
    (hN : fn.ntmps = N) (hle : args.length ≤ N) (hcd : codeDsts N c = true) (hms : ∀ k, k ≠ .y → look k .none ms = .none) (hI : X.I (look .y .none ms) (fun _ => False) X.St0 w) (hB : X.B ≤ w.heap.size) (hst : ∀ b o, X.St0 b o → b < w.heap.size) (hglob : ∀ g cs, Γ g = some cs → repA X.St0 (rdW w) cs g 0) (hargs : repT X.St0 (rdW w) args vs) (hk : vcode P Γ Sp Yp c C (VS.of (argsG 0 args) ms))
    (hC : ∀ e σ', C e σ' → (e = .normal ∨ e = .ret) ∧ ∀ a' w' G St own, RepD Γ X N [] σ' a' w' G St own → ∃ v, (results fn a'.tmps).run P w' = .ok v w' ∧ R (.returned v) w') : Calls P f vs.toArray w R := by
  refine callsIn_wide (n := 0).1 ?_
  obtain ⟨hlen, hget⟩ := repT_at hargs
  refine callsIn_of_wp_marks hf hb trivial ?_
  have hR : RepD Γ X N dsM (VS.of (argsG 0 args) ms) { tmps := vs.toArray ++ Array.replicate (fn.ntmps - vs.toArray.size) undef, defers := [] } w ⟨fun _ => 0, fun _ => undef⟩ X.St0 (fun _ => False) := by
    have hm0 : ∀ k, k ≠ .y → (VS.of (argsG 0 args) ms).mem k = .none := hms
    exact {
      size := by simp; omega
      defs := Marks.nil _ _ _
      dsq := fun h => (dsM_ne h).elim
      inv := by
        show X.I (look .y .none ms) (ownM (fun _ => False) []) X.St0 w
        rw [ownM_nil]; exact hI
      st0 := fun _ _ h => h
      stn := fun _ _ h => .inl h
      stlt := hst
      blt := hB
      ownlt := fun _ h => h.elim
      glob := hglob
      slots := fun t => by
        show repLv _ _ _ _ (lookG t (argsG 0 args)) _
        rw [argsG_look (v := fun _ => True)]
        simp only [Nat.zero_le, if_true, Nat.sub_zero]
        cases hx : args[t]? with
        | none => simp only [repLv]
        | some x =>
          have ht : t < vs.length := by have := (List.getElem?_eq_some_iff.1 hx).1; omega
          have hv : vs[t]? = some vs[t] := by simp [ht]
          have h1 := hget t x vs[t] hx hv
          have h2 : (vs.toArray ++ Array.replicate (fn.ntmps - vs.toArray.size) undef).getD t undef = vs[t] := by
            rw [Array.getD_eq_getD_getElem?, Array.getElem?_append_left (by simpa using ht)]
            simp [ht]
          simp only [repLv]
          rw [h2]; exact h1
      virts := fun t l h => by rw [hm0 _ (by simp)] at h; cases h
      boxes := fun t n h => by rw [hm0 _ (by simp)] at h; cases h
      arrs := fun t g e es xs h => by rw [hm0 _ (by simp)] at h; cases h
      disj := fun t t' b h => by unfold blkOf at h; rw [hm0 _ (by simp), hm0 _ (by simp)] at h; cases h
      both := fun t n g e es xs h => by rw [hm0 _ (by simp)] at h; cases h
      ownb := fun t b h => by unfold blkOf at h; rw [hm0 _ (by simp), hm0 _ (by simp)] at h; cases h
      sbox := fun t n h => by rw [hm0 _ (by simp)] at h; cases h
      sarr := fun t g e es xs b h => by rw [hm0 _ (by simp)] at h; cases h }
  refine code_sound (ro := none) (n := 0) hSp hm c (fun _ => ⟨rfl, dsM_ne⟩) hY hcd ⟨_, _, _, hR⟩ hk ?_
  rintro e σ' a' w' hc ⟨G, St1, own, hR1⟩
  obtain ⟨he, hfin⟩ := hC e σ' hc
  have hR2 : RepD Γ X N [] σ' ⟨a'.tmps, []⟩ w' G St1 (ownM own a'.defers) := by
    refine hR1.ctx (fun _ _ => rfl) hR1.size (Marks.nil _ _ _) (fun _ => rfl) ?_ hR1.st0 (fun b o hb => (hR1.stn b o hb).imp id .inl) hR1.blt (fun b hb => ?_) (fun t b hb => .inl (hR1.ownb t b hb)) hR1.slots hR1.virts
    · show X.I _ (ownM (ownM own a'.defers) []) _ _
      rw [ownM_nil]; exact hR1.inv
    · rcases hb with hb | hb
      · exact hR1.ownlt b hb
      · exact ⟨(hR1.defs.lt hb).1, (hR1.defs.lt hb).2.1⟩
  have hL : LeavesInM Fence.wide 0 P fn a'.tmps R a'.defers .returning w' := by
    refine leaves_marks hR2 hR1.defs.1 (fun d hd => ?_) fun w2 h2 => hfin ⟨a'.tmps, []⟩ _ _ _ _ h2
    obtain ⟨r, e, p, q, s, t⟩ := hR1.defs.2 d hd
    refine ⟨r, e, p, .inr (by unfold mkD; rw [← e]; exact hd), fun t ht => s (hR1.ownb t r ht), fun o ho => ?_⟩
    rcases hR1.stn r o ho with ho | ho
    · exact t o ho
    · exact s ho
  rcases he with rfl | rfl
  · exact hL
  · exact hL

theorem spec_of {f : FuncId} {fn : Func} {c : Code} {rs : List ResultVar} {args : List V} {r : R} (hm : P.follows .mixedOrders = true) (hSp : ∀ f args r, Sp f args r → Spec P Γ f args r) (hf : P.funcs[f]? = some fn) (hn : fn.name ≠ "runtime.NumGoroutine") (hb : fn.body = some c) (hrs : fn.results = rs.toArray)
    (hno : noOwn args = true) (hN : fn.ntmps = N) (hle : args.length ≤ N) (hcd : codeDsts N c = true) (hk : vcode P Γ Sp noY c (vexit P rs r) (VS.of (argsG 0 args) [])) : Spec P Γ f args r := by
  refine spec_pure hno (enters_of hf hn hb) fun St w vs hst hglob hargs => ?_
  refine calls_of (X := callX St w) hm hSp yields_no hf hb hN hle hcd (fun _ _ => rfl) ⟨RowKit.Below.refl _ _, fun _ h => h.elim⟩ (Nat.le_refl _) hst hglob hargs hk fun e σ' hc => ?_
  have fin : vret P rs r σ' → ∀ a' w' G St1 own, RepD Γ (callX St w) N [] σ' a' w' G St1 own → ∃ v, (results fn a'.tmps).run P w' = .ok v w' ∧ ∃ v' St' bl, Ending.returned v = .returned v' ∧ RowKit.Below w.heap.size w w' ∧ (∀ b o, St b o → St' b o) ∧ (∀ b o, St' b o → St b o ∨ w.heap.size ≤ b) ∧ (∀ b o, St' b o → b < w'.heap.size) ∧ bl.Nodup ∧ repR St' w' w.heap.size r v' bl := by
    intro hv a' w' G St1 own hR1
    obtain ⟨ls, us, h1, h2, h3⟩ := vresL_run hR1 hv
    obtain ⟨q, hq, rfl⟩ := wantO_iff.1 h1
    have hF := hR1.frz q.fz
    have hT := hR1.pubs hq h3 (fz := q.fz) fun _ h => h
    refine ⟨_, results_run hrs h2, _, stF σ' G St1 q.fz, [], rfl, hR1.inv.1, fun b o hb => hF.st0 b o hb, fun b o hb => (hF.stn b o hb).imp id fun h => (hF.ownlt b h).2, hF.stlt, List.nodup_nil, ?_⟩
    obtain ⟨hl, hg⟩ := repT_at hT
    generalize q.vs = xs at hT hl
    match xs, us, hT, hl with
    | [x], us, hT, hl =>
      simp only [repT] at hT
      obtain ⟨v, r, rfl, p, rfl⟩ := hT
      simp only [rOf, repR, repR1, repRC]
      exact ⟨p, trivial⟩
    | [], us, hT, hl =>
      simp only [repT] at hT
      subst hT
      simp only [rOf, List.map_nil, repR, repR1s]
      exact ⟨#[], by simp, rfl, trivial⟩
    | x :: y :: xs, us, hT, hl =>
      have hne : ¬ us.length = 1 := by simp at hl; omega
      rw [dif_neg hne]
      simp only [rOf, repR]
      exact ⟨us.toArray, rfl, repT_R1s hT⟩
  cases e with
  | normal => exact ⟨.inl rfl, fin hc⟩
  | ret => exact ⟨.inr rfl, fin hc⟩
  | _ => exact hc.elim
end Go.Vm

namespace Go.Vm
variable {Γ : Nat → Option (List V)} {X : Ctx} {N : Nat} {ds : List Deferred} {σ τ : VS} {a : Act} {w w' : World} {G G' : GG} {St St' : Nat → Nat → Prop} {own : Nat → Prop} {P : Program} {Sp : FuncId → List V → R → Prop} {ops : Array Oper}
def isArrV (r : R) (σ : VS) (ls : List L) : Prop := ∃ t g e es xs, ls = [.arr t g] ∧ σ.mem (.a t) = .arr g e es xs ∧ isNone (σ.mem (.f t)) = true ∧ r = R.one (.c (.arr e es xs))
def vretA (P : Program) (rs : List ResultVar) (r : R) (σ : VS) : Prop := vresL P σ rs fun ls => isArrV r σ ls
def vexitA (P : Program) (rs : List ResultVar) (r : R) : Exit → VS → Prop
  | .normal, σ => vretA P rs r σ
  | .ret, σ => vretA P rs r σ
  | _, _ => False
theorem vexitA_r {rs : List ResultVar} {r : R} : vexitA P rs r .ret σ = vresL P σ rs fun ls => isArrV r σ ls := Eq.trans rfl rfl
theorem vexitA_n {rs : List ResultVar} {r : R} : vexitA P rs r .normal σ = vresL P σ rs fun ls => isArrV r σ ls := Eq.trans rfl rfl
end Go.Vm

namespace Go.Vm
variable {Γ : Nat → Option (List V)} {X : Ctx} {N : Nat} {ds : List Deferred} {σ τ : VS} {a : Act} {w w' : World} {G G' : GG} {St St' : Nat → Nat → Prop} {own : Nat → Prop} {P : Program} {Sp : FuncId → List V → R → Prop}

def iexit (n : Nat) : Exit → VS → Prop
  | .normal, σ | .ret, σ => σ.mem .y = .cnt n ∨ σ.mem .y = .stop
  | _, _ => False

theorem specI2uof {f : FuncId} {fn : Func} {c : Code} {first caps : List V} {ys : List (List V)} (hm : P.follows .mixedOrders = true) (hSp : ∀ f args r, Sp f args r → Spec P Γ f args r) (hf : P.funcs[f]? = some fn) (hn : fn.name ≠ "runtime.NumGoroutine") (hb : fn.body = some c) (hrs : fn.results = #[])
    (hN : fn.ntmps = N) (hle : first.length + (caps.length + 1) ≤ N) (hcd : codeDsts N c = true) (hk : ∀ l, vcode P Γ Sp (yOf l ys) c (iexit ys.length) (VS.of (argsG 0 (first ++ .yld l :: caps)) [(.y, .cnt 0)])) : SpecI2 P Γ f first caps ys := by
  refine ⟨enters_of hf hn hb, fun X w fs us l hB hY hI hst hglob hfirst hargs => ?_⟩
  have hargs' : repT X.St0 (rdW w) (first ++ .yld l :: caps) (fs ++ .func (.yield l) #[] #[] :: us) := repT_app hfirst (by
    simp only [repT]
    exact ⟨_, _, rfl, ⟨by simp [repC, Value.cells], rfl⟩, hargs⟩)
  have harr : (fs.toArray ++ #[.func (.yield l) #[] #[]] ++ us.toArray : Array Value) = (fs ++ Value.func (.yield l) #[] #[] :: us).toArray := by
    apply Array.toList_inj.1; simp
  rw [harr]
  refine calls_of hm hSp hY hf hb hN (by simpa using hle) hcd (fun k hk => by simp [look, hk]) (by simpa [look] using hI) hB hst hglob hargs' (hk l) fun e σ' hc => ?_
  have fin : (σ'.mem .y = .cnt ys.length ∨ σ'.mem .y = .stop) → ∀ a' w' G St1 own, RepD Γ X N [] σ' a' w' G St1 own → ∃ v, (results fn a'.tmps).run P w' = .ok v w' ∧ ∃ v' own St, Ending.returned v = .returned v' ∧ (X.I (.cnt ys.length) own St w' ∨ X.I .stop own St w') := by
    intro hy a' w' G St1 own hR1
    have hres : (results fn a'.tmps).run P w' = .ok (.tuple #[]) w' := by
      have := results_run (P := P) (w := w') (fn := fn) (vs := []) (rs := []) (by rw [hrs]) (ts := a'.tmps) (by simp [Sem.run_pure])
      simpa using this
    refine ⟨_, hres, _, ownM own a'.defers, St1, rfl, ?_⟩
    have hi := hR1.inv
    rcases hy with hy | hy
    · rw [hy] at hi; exact .inl hi
    · rw [hy] at hi; exact .inr hi
  cases e with
  | normal => exact ⟨.inl rfl, fin hc⟩
  | ret => exact ⟨.inr rfl, fin hc⟩
  | _ => exact hc.elim

def vretY (P : Program) (u : Bool) (rs : List ResultVar) (n : Nat) (σ : VS) : Prop := vresL P σ rs fun ls => (ls = yresS u true ∧ σ.mem .y = .cnt n) ∨ (ls = yresS u false ∧ σ.mem .y = .stop)
def yexit (P : Program) (u : Bool) (rs : List ResultVar) (n : Nat) : Exit → VS → Prop
  | .normal, σ => vretY P u rs n σ
  | .ret, σ => vretY P u rs n σ
  | _, _ => False
theorem yexit_r {u : Bool} {rs : List ResultVar} {n : Nat} : yexit P u rs n .ret σ = vresL P σ rs fun ls => (ls = yresS u true ∧ σ.mem .y = .cnt n) ∨ (ls = yresS u false ∧ σ.mem .y = .stop) := Eq.trans rfl rfl

theorem specYl_of {f : FuncId} {fn : Func} {c : Code} {rs : List ResultVar} {u : Bool} {l i : Nat} {args : List V} {zs : List (List V)} (hm : P.follows .mixedOrders = true) (hSp : ∀ f args r, Sp f args r → Spec P Γ f args r) (hf : P.funcs[f]? = some fn) (hn : fn.name ≠ "runtime.NumGoroutine") (hb : fn.body = some c) (hrs : fn.results = rs.toArray)
    (hN : fn.ntmps = N) (hle : args.length ≤ N) (hcd : codeDsts N c = true) (hk : ∀ (Yp : Nat → Nat → List V → Prop), (∀ k z, zs[k]? = some z → Yp l (i + k) z) → vcode P Γ Sp Yp c (yexit P u rs (i + zs.length)) (VS.of (argsG 0 args) [(.y, .cnt i)])) : SpecYl P Γ u l i f args zs := by
  refine ⟨enters_of hf hn hb, fun X w us Yp hB hY hyz hI hst hglob hargs => ?_⟩
  refine calls_of hm hSp hY hf hb hN hle hcd (fun k hk => by simp [look, hk]) (by simpa [look] using hI) hB hst hglob hargs (hk Yp hyz) fun e σ' hc => ?_
  have fin : vretY P u rs (i + zs.length) σ' → ∀ a' w' G St1 own, RepD Γ X N [] σ' a' w' G St1 own → ∃ v, (results fn a'.tmps).run P w' = .ok v w' ∧ ∃ (b : Bool) (own : Nat → Prop) (St : Nat → Nat → Prop), Ending.returned v = .returned (yresV u b) ∧ (∀ k, own k → k < w'.heap.size ∧ X.B ≤ k) ∧ (∀ b o, X.St0 b o → St b o) ∧ (∀ b o, St b o → X.St0 b o ∨ own b) ∧ (∀ b o, St b o → b < w'.heap.size) ∧ X.I (if b then .cnt (i + zs.length) else .stop) own St w' := by
    intro hv a' w' G St1 own hR1
    have hde := hR1.dsq rfl
    obtain ⟨ls, us, h1, h2, h3⟩ := vresL_run hR1 hv
    have hi := hR1.inv
    rw [hde, ownM_nil] at hi
    have one : ∀ b : Bool, ls = yresS u b → (results fn a'.tmps).run P w' = .ok (yresV u b) w' := fun b hls => by
      subst hls
      have h4 := results_run hrs h2
      cases u with
      | true =>
        simp only [yresS, if_true, repLs] at h3
        subst h3
        exact h4
      | false =>
        simp only [yresS, Bool.false_eq_true, if_false, repLs] at h3
        obtain ⟨v, r, rfl, h5, rfl⟩ := h3
        rw [pbool h5] at h4
        exact h4
    rcases h1 with ⟨h1, hy⟩ | ⟨h1, hy⟩
    · refine ⟨_, one _ h1, true, own, St1, rfl, hR1.ownlt, hR1.st0, hR1.stn, hR1.stlt, ?_⟩
      rw [hy] at hi; exact hi
    · refine ⟨_, one _ h1, false, own, St1, rfl, hR1.ownlt, hR1.st0, hR1.stn, hR1.stlt, ?_⟩
      rw [hy] at hi; exact hi
  cases e with
  | normal => exact ⟨.inl rfl, fin hc⟩
  | ret => exact ⟨.inr rfl, fin hc⟩
  | _ => exact hc.elim
theorem specY_of {f : FuncId} {fn : Func} {c : Code} {rs : List ResultVar} {u : Bool} {args : Nat → List V} {zs : List (List V)} (hm : P.follows .mixedOrders = true) (hSp : ∀ f args r, Sp f args r → Spec P Γ f args r) (hf : P.funcs[f]? = some fn) (hn : fn.name ≠ "runtime.NumGoroutine") (hb : fn.body = some c) (hrs : fn.results = rs.toArray)
    (hN : fn.ntmps = N) (hle : ∀ l, (args l).length ≤ N) (hcd : codeDsts N c = true) (hk : ∀ l i (Yp : Nat → Nat → List V → Prop), (∀ k z, zs[k]? = some z → Yp l (i + k) z) → vcode P Γ Sp Yp c (yexit P u rs (i + zs.length)) (VS.of (argsG 0 (args l)) [(.y, .cnt i)])) : SpecY P Γ u f args zs :=
  fun l i => specYl_of hm hSp hf hn hb hrs hN (hle l) hcd (hk l i)
end Go.Vm

namespace Go.Vm
variable {Γ : Nat → Option (List V)} {X : Ctx} {N : Nat} {ds : List Deferred} {σ τ : VS} {a : Act} {w w' : World} {G G' : GG} {St St' : Nat → Nat → Prop} {own : Nat → Prop} {P : Program} {Sp : FuncId → List V → R → Prop} {ops : Array Oper}

def rcE (σ : VS) : L → Option (RC × List Nat)
  | .p v => some (.p v, [])
  | .nilS => some (.nilS, [])
  | .e0 => some (.e0, [])
  | .arr t g => match σ.mem (.a t), σ.mem (.f t) with
    | .arr g' e es xs, .none => if g = g' then some (.arr e es xs, [t]) else none
    | _, _ => none
  | _ => none
def rcsE (σ : VS) : List L → Option (List RC × List Nat)
  | [] => some ([], [])
  | l :: r => (rcE σ l).bind fun a => (rcsE σ r).map fun b => (a.1 :: b.1, a.2 ++ b.2)
def r1E (σ : VS) : L → Option (R1 × List Nat)
  | .agg ls => if ls.all L.isCell = true then (rcsE σ ls).map fun q => (.agg q.1, q.2) else none
  | l => (rcE σ l).map fun q => (.c q.1, q.2)
def r1sE (σ : VS) : List L → Option (List R1 × List Nat)
  | [] => some ([], [])
  | l :: r => (r1E σ l).bind fun a => (r1sE σ r).map fun b => (a.1 :: b.1, a.2 ++ b.2)
def resX (σ : VS) : List L → Option (R × List Nat)
  | [l] => (r1E σ l).map fun q => (.one q.1, q.2)
  | ls => (r1sE σ ls).map fun q => (.tup q.1, q.2)
def nodupB : List Nat → Bool
  | [] => true
  | t :: r => !r.contains t && nodupB r
theorem nodupB_nodup : ∀ {l : List Nat}, nodupB l = true → l.Nodup
  | [], _ => List.nodup_nil
  | t :: r, h => by
    simp only [nodupB, Bool.and_eq_true, Bool.not_eq_true'] at h
    exact List.nodup_cons.2 ⟨fun hm => by simp [hm] at h, nodupB_nodup h.2⟩

def ofSites (σ : VS) (G : GG) (ts : List Nat) (bl : List Nat) : Prop := bl.Nodup ∧ ∀ b ∈ bl, ∃ t ∈ ts, blkOf σ.mem G t = some b
theorem ofSites_app (h : RepD Γ X N ds σ a w G St own) {t1 t2 b1 b2 : List Nat} (hn : (t1 ++ t2).Nodup) (h1 : ofSites σ G t1 b1) (h2 : ofSites σ G t2 b2) : ofSites σ G (t1 ++ t2) (b1 ++ b2) := by
  refine ⟨List.nodup_append.2 ⟨h1.1, h2.1, fun b hb b' hb' e => ?_⟩, fun b hb => ?_⟩
  · subst e
    obtain ⟨t, p, q⟩ := h1.2 b hb
    obtain ⟨t', p', q'⟩ := h2.2 b hb'
    have := h.disj t t' b q q'
    subst this
    exact (List.nodup_append.1 hn).2.2 t p t p' rfl
  · rcases List.mem_append.1 hb with hb | hb
    · obtain ⟨t, p, q⟩ := h1.2 b hb; exact ⟨t, List.mem_append_left _ p, q⟩
    · obtain ⟨t, p, q⟩ := h2.2 b hb; exact ⟨t, List.mem_append_right _ p, q⟩
theorem rcE_rep (h : RepD Γ X N ds σ a w G St own) {l : L} {r : RC} {ts : List Nat} (hr : rcE σ l = some (r, ts)) {v : Value} (hv : repLv σ.mem G St (rdW w) l v) : ∃ bl, repRC St w X.B r v bl ∧ ofSites σ G ts bl := by
  cases l with
  | p x =>
    simp only [rcE] at hr; cases hr
    simp only [repLv] at hv
    exact ⟨[], ⟨hv, rfl⟩, List.nodup_nil, fun b hb => (by cases hb)⟩
  | nilS =>
    simp only [rcE] at hr; cases hr
    simp only [repLv] at hv
    exact ⟨[], ⟨hv, rfl⟩, List.nodup_nil, fun b hb => (by cases hb)⟩
  | e0 =>
    simp only [rcE] at hr; cases hr
    simp only [repLv] at hv
    exact ⟨[], ⟨hv, rfl⟩, List.nodup_nil, fun b hb => (by cases hb)⟩
  | arr t g =>
    simp only [rcE] at hr
    split at hr
    · rename_i g' e es xs hm hf
      split at hr
      · rename_i hg; subst hg; cases hr
        simp only [repLv] at hv
        obtain ⟨g1, e1, es1, xs1, hm1, _, _, h5⟩ := hv
        rw [hm] at hm1; cases hm1
        have hu := h5 rfl
        subst hu
        obtain ⟨h0, vs', hrow, hE⟩ := h.arrs t g e es xs hm
        have hblk : ∀ b, b ∈ (G.av t).ownBlock.toList → blkOf σ.mem G t = some b := fun b hb => by
          rw [h.blkA hm]; simpa using hb
        refine ⟨(G.av t).ownBlock.toList, ⟨h0, ⟨vs', hrow, hE⟩, rfl, fun b hb => ?_⟩, ?_, fun b hb => ⟨t, by simp, hblk b hb⟩⟩
        · have ho := h.ownlt b (h.ownb t b (hblk b hb))
          exact ⟨ho.2, ho.1, (h.sarr t g e es xs b hm (by simpa using hb)).1 (by rw [hf]; rfl)⟩
        · cases (G.av t).ownBlock <;> simp
      · cases hr
    · cases hr
  | _ => simp only [rcE] at hr; cases hr
theorem rcsE_rep (h : RepD Γ X N ds σ a w G St own) : ∀ {ls : List L} {rs : List RC} {ts : List Nat} {vs : List Value}, rcsE σ ls = some (rs, ts) → ts.Nodup → ls.all L.isCell = true → repLs σ.mem G St (rdW w) ls vs → ∃ bl, repRCs St w X.B rs vs bl ∧ ofSites σ G ts bl
  | [], rs, ts, vs, hr, hn, hc, hv => by
    cases hr
    simp only [repLs] at hv
    exact ⟨[], ⟨hv, rfl⟩, List.nodup_nil, fun b hb => (by cases hb)⟩
  | l :: ls, rs, ts, vs, hr, hn, hc, hv => by
    simp only [repLs] at hv
    obtain ⟨v, vr, rfl, p, q⟩ := hv
    simp only [rcsE] at hr
    simp only [List.all_cons, Bool.and_eq_true] at hc
    cases h1 : rcE σ l with
    | none => rw [h1] at hr; cases hr
    | some x =>
      obtain ⟨r1, t1⟩ := x
      cases h2 : rcsE σ ls with
      | none => rw [h1, h2] at hr; cases hr
      | some y =>
        obtain ⟨r2, t2⟩ := y
        rw [h1, h2] at hr; cases hr
        obtain ⟨b1, k1, k2⟩ := rcE_rep h h1 p
        obtain ⟨b2, k3, k4⟩ := rcsE_rep h h2 (List.nodup_append.1 hn).2.1 hc.2 q
        exact ⟨b1 ++ b2, ⟨v, vr, b1, b2, rfl, rfl, isCell_one hc.1 p, k1, k3⟩, ofSites_app h hn k2 k4⟩
theorem r1E_rep (h : RepD Γ X N ds σ a w G St own) {l : L} {r : R1} {ts : List Nat} (hr : r1E σ l = some (r, ts)) (hn : ts.Nodup) {v : Value} (hv : repLv σ.mem G St (rdW w) l v) : ∃ bl, repR1 St w X.B r v bl ∧ ofSites σ G ts bl := by
  have one : ∀ l, (rcE σ l).map (fun q => ((.c q.1 : R1), q.2)) = some (r, ts) → repLv σ.mem G St (rdW w) l v → ∃ bl, repR1 St w X.B r v bl ∧ ofSites σ G ts bl := fun l hr hv => by
    cases h1 : rcE σ l with
    | none => rw [h1] at hr; cases hr
    | some x =>
      obtain ⟨r1, t1⟩ := x
      rw [h1] at hr; cases hr
      exact rcE_rep h h1 hv
  cases l with
  | agg ls =>
    simp only [r1E] at hr
    split at hr
    · rename_i hc
      cases h1 : rcsE σ ls with
      | none => rw [h1] at hr; cases hr
      | some x =>
        obtain ⟨r1, t1⟩ := x
        rw [h1] at hr; cases hr
        simp only [repLv] at hv
        obtain ⟨vs, rfl, hv⟩ := hv
        obtain ⟨bl, k1, k2⟩ := rcsE_rep h h1 hn hc hv
        exact ⟨bl, ⟨vs, rfl, k1⟩, k2⟩
    · cases hr
  | _ => exact one _ (by simpa only [r1E] using hr) hv
theorem r1sE_rep (h : RepD Γ X N ds σ a w G St own) : ∀ {ls : List L} {rs : List R1} {ts : List Nat} {vs : List Value}, r1sE σ ls = some (rs, ts) → ts.Nodup → repLs σ.mem G St (rdW w) ls vs → ∃ bl, repR1s St w X.B rs vs bl ∧ ofSites σ G ts bl
  | [], rs, ts, vs, hr, hn, hv => by
    cases hr
    simp only [repLs] at hv
    exact ⟨[], ⟨hv, rfl⟩, List.nodup_nil, fun b hb => (by cases hb)⟩
  | l :: ls, rs, ts, vs, hr, hn, hv => by
    simp only [repLs] at hv
    obtain ⟨v, vr, rfl, p, q⟩ := hv
    simp only [r1sE] at hr
    cases h1 : r1E σ l with
    | none => rw [h1] at hr; cases hr
    | some x =>
      obtain ⟨r1, t1⟩ := x
      cases h2 : r1sE σ ls with
      | none => rw [h1, h2] at hr; cases hr
      | some y =>
        obtain ⟨r2, t2⟩ := y
        rw [h1, h2] at hr; cases hr
        obtain ⟨b1, k1, k2⟩ := r1E_rep h h1 (List.nodup_append.1 hn).1 p
        obtain ⟨b2, k3, k4⟩ := r1sE_rep h h2 (List.nodup_append.1 hn).2.1 q
        exact ⟨b1 ++ b2, ⟨v, vr, b1, b2, rfl, rfl, k1, k3⟩, ofSites_app h hn k2 k4⟩

def isRes (r : R) (σ : VS) (ls : List L) : Prop := ∃ ts, resX σ ls = some (r, ts) ∧ nodupB ts = true
def vretX (P : Program) (rs : List ResultVar) (r : R) (σ : VS) : Prop := vresL P σ rs fun ls => isRes r σ ls
def vexitX (P : Program) (rs : List ResultVar) (r : R) : Exit → VS → Prop
  | .normal, σ => vretX P rs r σ
  | .ret, σ => vretX P rs r σ
  | _, _ => False
theorem vexitX_r {rs : List ResultVar} {r : R} : vexitX P rs r .ret σ = vresL P σ rs fun ls => isRes r σ ls := Eq.trans rfl rfl
theorem vexitX_n {rs : List ResultVar} {r : R} : vexitX P rs r .normal σ = vresL P σ rs fun ls => isRes r σ ls := Eq.trans rfl rfl
theorem spec_of_x {f : FuncId} {fn : Func} {c : Code} {rs : List ResultVar} {args : List V} {r : R} (hm : P.follows .mixedOrders = true) (hSp : ∀ f args r, Sp f args r → Spec P Γ f args r) (hf : P.funcs[f]? = some fn) (hn : fn.name ≠ "runtime.NumGoroutine") (hb : fn.body = some c) (hrs : fn.results = rs.toArray)
    (hno : noOwn args = true) (hN : fn.ntmps = N) (hle : args.length ≤ N) (hcd : codeDsts N c = true) (hk : vcode P Γ Sp noY c (vexitX P rs r) (VS.of (argsG 0 args) [])) : Spec P Γ f args r := by
  refine spec_pure hno (enters_of hf hn hb) fun St w vs hst hglob hargs => ?_
  refine calls_of (X := callX St w) hm hSp yields_no hf hb hN hle hcd (fun _ _ => rfl) ⟨RowKit.Below.refl _ _, fun _ h => h.elim⟩ (Nat.le_refl _) hst hglob hargs hk fun e σ' hc => ?_
  have fin : vretX P rs r σ' → ∀ a' w' G St1 own, RepD Γ (callX St w) N [] σ' a' w' G St1 own → ∃ v, (results fn a'.tmps).run P w' = .ok v w' ∧ ∃ v' St' bl, Ending.returned v = .returned v' ∧ RowKit.Below w.heap.size w w' ∧ (∀ b o, St b o → St' b o) ∧ (∀ b o, St' b o → St b o ∨ w.heap.size ≤ b) ∧ (∀ b o, St' b o → b < w'.heap.size) ∧ bl.Nodup ∧ repR St' w' w.heap.size r v' bl := by
    intro hv a' w' G St1 own hR1
    obtain ⟨ls, us, ⟨ts, hr, hnd⟩, h2, h3⟩ := vresL_run hR1 hv
    have hnd := nodupB_nodup hnd
    have fin2 : ∀ (v : Value) (bl : List Nat), (results fn a'.tmps).run P w' = .ok v w' → repR St1 w' w.heap.size r v bl → bl.Nodup → ∃ v, (results fn a'.tmps).run P w' = .ok v w' ∧ ∃ v' St' bl, Ending.returned v = .returned v' ∧ RowKit.Below w.heap.size w w' ∧ (∀ b o, St b o → St' b o) ∧ (∀ b o, St' b o → St b o ∨ w.heap.size ≤ b) ∧ (∀ b o, St' b o → b < w'.heap.size) ∧ bl.Nodup ∧ repR St' w' w.heap.size r v' bl := fun v bl hrun hrr hbn =>
      ⟨v, hrun, v, St1, bl, rfl, hR1.inv.1, hR1.st0, fun b o hb => (hR1.stn b o hb).imp id fun h => (hR1.ownlt b h).2, hR1.stlt, hbn, hrr⟩
    have hlen := repLs_length h3
    match ls, us, hr, h3, h2, hlen with
    | [l], us, hr, h3, h2, hlen =>
      simp only [resX] at hr
      cases h1 : r1E σ' l with
      | none => rw [h1] at hr; cases hr
      | some x =>
        obtain ⟨r1, t1⟩ := x
        rw [h1] at hr; cases hr
        simp only [repLs] at h3
        obtain ⟨v, vr, rfl, p, rfl⟩ := h3
        obtain ⟨bl, k1, k2⟩ := r1E_rep hR1 h1 hnd p
        exact fin2 v bl (by have := results_run hrs h2; simpa using this) k1 k2.1
    | [], us, hr, h3, h2, hlen =>
      simp only [resX, r1sE] at hr
      cases hr
      simp only [repLs] at h3
      subst h3
      exact fin2 _ [] (by have := results_run hrs h2; simpa using this) ⟨#[], rfl, by simp [repR1s]⟩ List.nodup_nil
    | l1 :: l2 :: ls, us, hr, h3, h2, hlen =>
      simp only [resX] at hr
      cases h1 : r1sE σ' (l1 :: l2 :: ls) with
      | none => rw [h1] at hr; cases hr
      | some x =>
        obtain ⟨r1, t1⟩ := x
        rw [h1] at hr; cases hr
        obtain ⟨bl, k1, k2⟩ := r1sE_rep hR1 h1 hnd h3
        have hne : ¬ us.length = 1 := by simp at hlen; omega
        refine fin2 (.tuple us.toArray) bl ?_ ⟨us.toArray, rfl, k1⟩ k2.1
        have := results_run hrs h2
        rw [dif_neg hne] at this; exact this
  cases e with
  | normal => exact ⟨.inl rfl, fin hc⟩
  | ret => exact ⟨.inr rfl, fin hc⟩
  | _ => exact hc.elim
end Go.Vm

namespace Go.Vm
variable {Γ : Nat → Option (List V)} {P : Program} {Sp : FuncId → List V → R → Prop} {Yp : Nat → Nat → List V → Prop}
@[congr] theorem vcode_congr {c : Code} {Q : Exit → VS → Prop} {σ σ' : VS} (h : σ = σ') : vcode P Γ Sp Yp c Q σ = vcode P Γ Sp Yp c Q σ' := by rw [h]
@[congr] theorem vops_congr {ops : Array Oper} {l : List Oper} {K : VS → Prop} {σ σ' : VS} (h : σ = σ') : vops P Γ Sp ops l σ K = vops P Γ Sp ops l σ' K := by rw [h]
@[congr] theorem vopsD_congr {ops : Array Oper} {l : List Oper} {K : VS → Prop} {tr tr' : List Tr} {σ σ' : VS} (h : σ = σ') (h2 : tr = tr') : vopsD P Γ Sp ops l tr σ K = vopsD P Γ Sp ops l tr' σ' K := by rw [h, h2]
@[congr] theorem vstep_congr {ops : Array Oper} {o : Oper} {K : Eff → Prop} {σ σ' : VS} (h : σ = σ') : vstep P Γ Sp ops σ o K = vstep P Γ Sp ops σ' o K := by rw [h]
@[congr] theorem vop_congr {d : Option Nat} {op : Op} {K : Eff → Prop} {σ σ' : VS} (h : σ = σ') : vop P Γ Sp σ d op K = vop P Γ Sp σ' d op K := by rw [h]
@[congr] theorem thenV_congr {e e' : Exit} {K : VS → Prop} {Q : Exit → VS → Prop} {σ σ' : VS} (h : e = e') (h2 : σ = σ') : thenV K Q e σ = thenV K Q e' σ' := by rw [h, h2]
@[congr] theorem blockV_congr {e e' : Exit} {id : Nat} {Q : Exit → VS → Prop} {σ σ' : VS} (h : e = e') (h2 : σ = σ') : blockV id Q e σ = blockV id Q e' σ' := by rw [h, h2]

theorem of_get {gs : List (Nat × L)} {ms : List (Key × M)} {t : Nat} : (VS.of gs ms).get t = lookG t gs := Eq.trans rfl rfl
theorem of_mem {gs : List (Nat × L)} {ms : List (Key × M)} {k : Key} : (VS.of gs ms).mem k = look k .none ms := Eq.trans rfl rfl
theorem look_app {k : Key} {m : M} : ∀ {a b : List (Key × M)}, look k m (a ++ b) = look k (look k m b) a
  | [], _ => rfl
  | (k', v) :: r, b => by simp only [List.cons_append, look, look_app]
theorem of_apply {gs : List (Nat × L)} {ms : List (Key × M)} {d : Nat} {e : Eff} : (VS.of gs ms).apply (some d) e = VS.of ((d, e.val) :: gs) (e.wr ++ ms) := by
  refine VS.same (fun t => ?_) (fun k => ?_)
  · rw [apply_get]; simp only [of_get, lookG, Option.some.injEq, eq_comm]
  · rw [apply_mem]; simp only [of_mem, look_app]
theorem of_apply0 {gs : List (Nat × L)} {ms : List (Key × M)} {e : Eff} : (VS.of gs ms).apply none e = VS.of gs (e.wr ++ ms) := by
  refine VS.same (fun t => ?_) (fun k => ?_)
  · rw [apply_get]; simp only [of_get, reduceCtorEq, if_false]
  · rw [apply_mem]; simp only [of_mem, look_app]
theorem lookG_cons {t t' : Nat} {l : L} {r : List (Nat × L)} : lookG t ((t', l) :: r) = if t = t' then l else lookG t r := Eq.trans rfl rfl
theorem look_cons {k k' : Key} {m v : M} {r : List (Key × M)} : look k m ((k', v) :: r) = if k = k' then v else look k m r := Eq.trans rfl rfl
theorem ev_tmp {σ : VS} {t : Nat} : σ.ev Γ (.tmp t) = σ.get t := Eq.trans rfl rfl
theorem ev_int {σ : VS} {k : IntKind} {n : Int} : σ.ev Γ (.const (.int k n)) = .p (.i k n) := Eq.trans rfl rfl
theorem ev_bool {σ : VS} {b : Bool} : σ.ev Γ (.const (.bool b)) = .p (.b b) := Eq.trans rfl rfl
theorem ev_str {σ : VS} {s : ByteArray} : σ.ev Γ (.const (.string s)) = .p (.s s) := Eq.trans rfl rfl
theorem ev_nilS {σ : VS} : σ.ev Γ (.const (.slice none 0 0)) = .nilS := Eq.trans rfl rfl
theorem ev_nilP {σ : VS} : σ.ev Γ (.const (.pointer none)) = .p .nilPtr := Eq.trans rfl rfl
theorem ev_nilF {σ : VS} : σ.ev Γ (.const .nilFunc) = .p .nilFn := Eq.trans rfl rfl
theorem ev_nilI {σ : VS} : σ.ev Γ (.const .nilIface) = .p .nilI := Eq.trans rfl rfl
theorem ev_func {σ : VS} {f : FuncId} : σ.ev Γ (.func f) = .p (.fn f [] []) := Eq.trans rfl rfl

theorem vcode_seq {x y : Code} {Q : Exit → VS → Prop} {σ : VS} : vcode P Γ Sp Yp (.seq x y) Q σ = vcode P Γ Sp Yp x (thenV (fun σ => vsay (vcode P Γ Sp Yp y Q) σ) Q) σ := Eq.trans rfl rfl
theorem vcode_block {id : Nat} {c : Code} {Q : Exit → VS → Prop} {σ : VS} : vcode P Γ Sp Yp (.block id c) Q σ = vcode P Γ Sp Yp c (blockV id Q) σ := Eq.trans rfl rfl
theorem vcode_if {c : Operand} {x y : Code} {Q : Exit → VS → Prop} {σ : VS} (b : Bool) (hc : σ.ev Γ c = .p (.b b)) (h1 : b = true → vcode P Γ Sp Yp x Q σ) (h2 : b = false → vcode P Γ Sp Yp y Q σ) : vcode P Γ Sp Yp (.cond c x y) Q σ := by
  show vbool _ _ _
  rw [hc]; exact ⟨h1, h2⟩
theorem thenV_n {K : VS → Prop} {Q : Exit → VS → Prop} {σ : VS} : thenV K Q .normal σ = K σ := Eq.trans rfl rfl
theorem thenV_e {K : VS → Prop} {Q : Exit → VS → Prop} {id : Nat} {σ : VS} : thenV K Q (.exit id) σ = Q (.exit id) σ := Eq.trans rfl rfl
theorem thenV_r {K : VS → Prop} {Q : Exit → VS → Prop} {σ : VS} : thenV K Q .ret σ = Q .ret σ := Eq.trans rfl rfl
theorem blockV_n {id : Nat} {Q : Exit → VS → Prop} {σ : VS} : blockV id Q .normal σ = Q .normal σ := Eq.trans rfl rfl
theorem blockV_r {id : Nat} {Q : Exit → VS → Prop} {σ : VS} : blockV id Q .ret σ = Q .ret σ := Eq.trans rfl rfl
theorem blockV_e {id id' : Nat} {Q : Exit → VS → Prop} {σ : VS} : blockV id Q (.exit id') σ = if id' = id then Q .normal σ else Q (.exit id') σ := Eq.trans rfl rfl
theorem vops_nil {ops : Array Oper} {K : VS → Prop} {σ : VS} : vops P Γ Sp ops [] σ K = K σ := Eq.trans rfl rfl
theorem vopsD_nil {ops : Array Oper} {K : VS → Prop} {σ : VS} {tr : List Tr} : vopsD P Γ Sp ops [] tr σ K = need (indepOk ops tr.reverse = true) (K σ) := Eq.trans rfl rfl
theorem vops_cons {ops : Array Oper} {K : VS → Prop} {σ : VS} {d : Option Tmp} {op : Op} {t : TypeId} {p : String} {af : Array Edge} {r : List Oper} :
    vops P Γ Sp ops (⟨d, op, t, p, af, none⟩ :: r) σ K = vop P Γ Sp σ d op fun e => vops P Γ Sp ops r (σ.apply d e) K := Eq.trans rfl rfl
theorem vopsD_cons {ops : Array Oper} {K : VS → Prop} {σ : VS} {d : Option Tmp} {op : Op} {t : TypeId} {p : String} {af : Array Edge} {r : List Oper} {tr : List Tr} :
    vopsD P Γ Sp ops (⟨d, op, t, p, af, none⟩ :: r) tr σ K = vop P Γ Sp σ d op fun e => vopsD P Γ Sp ops r (e.tr :: tr) (σ.apply d e) K := Eq.trans rfl rfl
theorem vop_move {σ : VS} {d : Option Nat} {x : Operand} {K : Eff → Prop} : vop P Γ Sp σ d (.move x) K = K ⟨σ.ev Γ x, [], []⟩ := Eq.trans rfl rfl
theorem vop_assign {σ : VS} {d : Option Nat} {x : Operand} {K : Eff → Prop} : vop P Γ Sp σ d (.assign x) K = K ⟨σ.ev Γ x, [], []⟩ := Eq.trans rfl rfl
theorem vop_pick {σ : VS} {d : Option Nat} {c x y : Operand} {K : Eff → Prop} : vop P Γ Sp σ d (.pick c x y) K = vbool (σ.ev Γ c) (K ⟨σ.ev Γ x, [], []⟩) (K ⟨σ.ev Γ y, [], []⟩) := Eq.trans rfl rfl
theorem vop_alloc {σ : VS} {d : Nat} {t : TypeId} {K : Eff → Prop} : vop P Γ Sp σ (some d) (.alloc t) K = wantO (zeq P t) fun ls => newBox σ d ls K := Eq.trans rfl rfl
theorem vop_box {σ : VS} {d : Nat} {t : TypeId} {x : Operand} {K : Eff → Prop} : vop P Γ Sp σ (some d) (.box t x) K = newBox σ d (σ.ev Γ x).cells K := Eq.trans rfl rfl
theorem vop_build {σ : VS} {d : Option Nat} {t : TypeId} {ps : List (Nat × Operand)} {K : Eff → Prop} : vop P Γ Sp σ d (.build t ps.toArray) K = wantO (zeq P t) fun z => wantO (plq P t) fun pl => wantO (lfill pl z (ps.map fun x => (x.1, (σ.ev Γ x.2).cells))) fun ls => need ((ps.all fun x => (σ.ev Γ x.2).cells.all L.isCell) = true) (K ⟨mkAgg ls, [], []⟩) := Eq.trans rfl rfl
theorem vop_buildSlice {σ : VS} {d : Nat} {t : TypeId} {n : Nat} {ps : List (Nat × Operand)} {K : Eff → Prop} : vop P Γ Sp σ (some d) (.buildSlice t n ps.toArray) K = vbuildSlice P σ d t n (ps.map (·.1)) (ps.map fun x => σ.ev Γ x.2) K := Eq.trans rfl rfl
theorem vop_load {σ : VS} {d : Option Nat} {t : TypeId} {x : Operand} {K : Eff → Prop} : vop P Γ Sp σ d (.load t x) K = vload P σ t (σ.ev Γ x) K := Eq.trans rfl rfl
theorem vop_store {σ : VS} {d : Option Nat} {t : TypeId} {x y : Operand} {K : Eff → Prop} : vop P Γ Sp σ d (.store t x y) K = vstore P σ t (σ.ev Γ x) (σ.ev Γ y) K := Eq.trans rfl rfl
theorem vop_bin {σ : VS} {d : Option Nat} {o : BinOp} {t t2 : TypeId} {x y : Operand} {K : Eff → Prop} : vop P Γ Sp σ d (.binOp o t x y t2) K = vbin P t (Operand.isConst y) σ o (σ.ev Γ x) (σ.ev Γ y) K := Eq.trans rfl rfl
theorem vop_un {σ : VS} {d : Option Nat} {o : UnOp} {t : TypeId} {x : Operand} {K : Eff → Prop} : vop P Γ Sp σ d (.unOp o t x) K = vun o (σ.ev Γ x) K := Eq.trans rfl rfl
theorem vop_conv {σ : VS} {d : Option Nat} {t t2 : TypeId} {x : Operand} {K : Eff → Prop} : vop P Γ Sp σ d (.convert t t2 x) K = vconv P t t2 (σ.ev Γ x) K := Eq.trans rfl rfl
theorem vop_makeFunc {σ : VS} {d : Option Nat} {f : FuncId} {xs ys : List Operand} {K : Eff → Prop} : vop P Γ Sp σ d (.makeFunc (.func f) xs.toArray ys.toArray) K = vmakeFunc σ f (xs.map (σ.ev Γ)) (ys.map (σ.ev Γ)) K := Eq.trans rfl rfl
theorem vop_makeSlice {σ : VS} {d : Nat} {t : TypeId} {x y : Operand} {K : Eff → Prop} : vop P Γ Sp σ (some d) (.makeSlice t x y) K = vmakeSlice P σ d t (σ.ev Γ x) (σ.ev Γ y) K := Eq.trans rfl rfl
theorem vop_slice {σ : VS} {d : Option Nat} {t : TypeId} {x : Operand} {lo hi mx : Option Operand} {K : Eff → Prop} : vop P Γ Sp σ d (.slice t x lo hi mx) K = vsl (winM Γ) P σ t (σ.ev Γ x) (lo.map (σ.ev Γ)) (hi.map (σ.ev Γ)) (mx.map (σ.ev Γ)) K := Eq.trans rfl rfl
theorem vop_fieldAddr {σ : VS} {d : Option Nat} {t : TypeId} {x : Operand} {f : Nat} {K : Eff → Prop} : vop P Γ Sp σ d (.fieldAddr t x f) K = vfieldAddr P σ t (σ.ev Γ x) f K := Eq.trans rfl rfl
theorem vop_field {σ : VS} {d : Option Nat} {t : TypeId} {x : Operand} {f : Nat} {K : Eff → Prop} : vop P Γ Sp σ d (.field t x f) K = vfield P t (σ.ev Γ x) f K := Eq.trans rfl rfl
theorem vop_indexAddr {σ : VS} {d : Option Nat} {t : TypeId} {x y : Operand} {K : Eff → Prop} : vop P Γ Sp σ d (.indexAddr t x y) K = vindexAddr P σ t (σ.ev Γ x) (σ.ev Γ y) K := Eq.trans rfl rfl
theorem vop_index {σ : VS} {d : Option Nat} {t : TypeId} {x y : Operand} {K : Eff → Prop} : vop P Γ Sp σ d (.index t x y) K = vindex P t (σ.ev Γ x) (σ.ev Γ y) K := Eq.trans rfl rfl
theorem vop_extract {σ : VS} {d : Option Nat} {x : Operand} {i : Nat} {K : Eff → Prop} : vop P Γ Sp σ d (.extract x i) K = vextract (σ.ev Γ x) i K := Eq.trans rfl rfl
theorem vop_call {σ : VS} {d : Option Nat} {f : Operand} {args : List Operand} {ats : Array TypeId} {K : Eff → Prop} : vop P Γ Sp σ d (.call ⟨.value f, args.toArray, ats⟩) K = vcallF Sp σ d (σ.ev Γ f) (args.map (σ.ev Γ)) K := Eq.trans rfl rfl
theorem vop_len {σ : VS} {d : Option Nat} {x : Operand} {t : TypeId} {K : Eff → Prop} : vop P Γ Sp σ d (.call ⟨.builtin .len, [x].toArray, [t].toArray⟩) K = vlen σ P t (σ.ev Γ x) K := Eq.trans rfl rfl
theorem vop_max {σ : VS} {d : Option Nat} {args : List Operand} {ats : Array TypeId} {K : Eff → Prop} : vop P Γ Sp σ d (.call ⟨.builtin .max, args.toArray, ats⟩) K = vminmax true (args.map (σ.ev Γ)) K := Eq.trans rfl rfl
theorem vop_min {σ : VS} {d : Option Nat} {args : List Operand} {ats : Array TypeId} {K : Eff → Prop} : vop P Γ Sp σ d (.call ⟨.builtin .min, args.toArray, ats⟩) K = vminmax false (args.map (σ.ev Γ)) K := Eq.trans rfl rfl
theorem vop_append {σ : VS} {d : Nat} {s x : Operand} {ts tx : TypeId} {K : Eff → Prop} : vop P Γ Sp σ (some d) (.call ⟨.builtin .append, [s, x].toArray, [ts, tx].toArray⟩) K = (if ts = tx then vappend P σ d ts (σ.ev Γ s) (σ.ev Γ x) K else vappZ P σ d ts tx (σ.ev Γ s) (σ.ev Γ x) K) := Eq.trans rfl rfl
theorem vstep_mono {ops : Array Oper} {σ : VS} {o : Oper} {K K' : Eff → Prop} (hk : ∀ e, K e → K' e) (h : vstep P Γ Sp ops σ o K) : vstep P Γ Sp ops σ o K' := by
  obtain ⟨e, h1, h2⟩ := vstep_loc h
  exact h2 σ (fun _ _ => rfl) (fun _ _ => rfl) K' (hk e h1)
theorem vops_mono {ops : Array Oper} {K K' : VS → Prop} (hk : ∀ σ, K σ → K' σ) : ∀ {l : List Oper} {σ : VS}, vops P Γ Sp ops l σ K → vops P Γ Sp ops l σ K'
  | [], _, h => hk _ h
  | _ :: _, _, h => vstep_mono (fun _ h => vops_mono hk h) h
theorem vopsD_mono {ops : Array Oper} {K K' : VS → Prop} (hk : ∀ σ, K σ → K' σ) : ∀ {l : List Oper} {tr : List Tr} {σ : VS}, vopsD P Γ Sp ops l tr σ K → vopsD P Γ Sp ops l tr σ K'
  | [], _, _, h => ⟨h.1, hk _ h.2⟩
  | _ :: _, _, _, h => vstep_mono (fun _ h => vopsD_mono hk h) h
theorem thenV_mono {K K' : VS → Prop} {Q Q' : Exit → VS → Prop} (hk : ∀ σ, K σ → K' σ) (hq : ∀ e σ, Q e σ → Q' e σ) : ∀ e σ, thenV K Q e σ → thenV K' Q' e σ := fun e σ h => by
  cases e with
  | normal => exact hk _ h
  | _ => exact hq _ _ h
theorem vyl_mono {o : Oper} {σ : VS} {K K' : VS → Prop} (hk : ∀ σ, K σ → K' σ) (h : vyl P Γ Yp o σ K) : vyl P Γ Yp o σ K' := by
  unfold vyl at h ⊢
  split at h
  · obtain ⟨q, hq, h⟩ := wantO_iff.1 h
    refine wantO_iff.2 ⟨q, hq, ?_⟩
    split at h
    · obtain ⟨i, h1, h2, h3, h4⟩ := h
      exact ⟨i, h1, h2, hk _ h3, hk _ h4⟩
    · obtain ⟨u, l, i, zs, h1, h2, h4, h5, h6⟩ := h
      exact ⟨u, l, i, zs, h1, h2, h4, hk _ h5, hk _ h6⟩
    · exact h.elim
  · exact h.elim
theorem vyg_mono {ops : Array Oper} {o : Oper} {σ : VS} {K K' : VS → Prop} (hk : ∀ σ, K σ → K' σ) (h : vyg P Γ Yp ops o σ K) : vyg P Γ Yp ops o σ K' := by
  unfold vyg at h ⊢
  split at h
  · exact vyl_mono hk h
  · obtain ⟨d, hd, h⟩ := wantO_iff.1 h
    refine wantO_iff.2 ⟨d, hd, ?_⟩
    unfold vguard at h ⊢
    split at h
    · exact ⟨fun e => vyl_mono hk (h.1 e), fun e => hk _ (h.2 e)⟩
    · exact hk _ h
    · exact h.elim
theorem thenN_mono {K K' : VS → Prop} (hk : ∀ σ, K σ → K' σ) : ∀ e σ, thenN K e σ → thenN K' e σ := fun e σ h => by
  cases e with
  | normal => exact hk _ h
  | _ => exact h
theorem vsay_mono {K K' : VS → Prop} (hk : ∀ σ, K σ → K' σ) {σ : VS} (h : vsay K σ) : vsay K' σ := by
  rcases h with h | ⟨τ, hw, h⟩
  · exact .inl (hk _ h)
  · exact .inr ⟨τ, hw, hk _ h⟩
theorem roundV_mono {Inv : Nat → VS → Prop} {i : Nat} {Q Q' : Exit → VS → Prop} (hq : ∀ e σ, Q e σ → Q' e σ) : ∀ e σ, roundV Inv i Q e σ → roundV Inv i Q' e σ := fun e σ h => by
  cases e with
  | normal => exact h
  | ret => exact hq _ _ h
  | exit id => exact hq _ _ h
  | _ => exact h
theorem vcode_mono : ∀ (c : Code) {Q Q' : Exit → VS → Prop} {σ : VS}, (∀ e σ, Q e σ → Q' e σ) → vcode P Γ Sp Yp c Q σ → vcode P Γ Sp Yp c Q' σ
  | .skip, _, _, _, hq, h => hq _ _ h
  | .region _ _ false, _, _, _, hq, h => by
    rcases h with h | ⟨l1, o, l2, e, h⟩
    · exact .inl (vops_mono (hq _) h)
    · exact .inr ⟨l1, o, l2, e, vops_mono (fun _ h => vyg_mono (fun _ h => vops_mono (hq _) h) h) h⟩
  | .region _ _ true, _, _, _, hq, h => by
    rcases h with h | ⟨l1, o, l2, e, hl, h⟩
    · exact .inl (vopsD_mono (hq _) h)
    · exact .inr ⟨l1, o, l2, e, hl, vopsD_mono (fun _ h => vyl_mono (fun _ h => vops_mono (hq _) h) h) h⟩
  | .seq x y, _, _, _, hq, h => vcode_mono x (thenV_mono (fun _ h => by
      rcases h with h | ⟨τ, hw, h⟩
      · exact .inl (vcode_mono y hq h)
      · exact .inr ⟨τ, hw, vcode_mono y hq h⟩) hq) h
  | .cond c x y, _, _, σ, hq, h => by
    simp only [vcode, vbool] at h ⊢
    split at h
    · exact ⟨fun e => vcode_mono x hq (h.1 e), fun e => vcode_mono y hq (h.2 e)⟩
    · exact h.elim
  | .block id c, Q, Q', _, hq, h => vcode_mono c (fun e σ h => by
      cases e with
      | exit id' =>
        simp only [blockV] at h ⊢
        by_cases he : id' = id
        · rw [if_pos he] at h ⊢; exact hq _ _ h
        · rw [if_neg he] at h ⊢; exact hq _ _ h
      | _ => exact hq _ _ h) h
  | .loop c, _, _, _, hq, h => by
    obtain ⟨I, n0, σ0, h1, h2, h3⟩ := h
    exact ⟨I, n0, σ0, h1, h2, fun n σ' hI => vcode_mono c (thenV_mono (fun _ h => h) hq) (h3 n σ' hI)⟩
  | .exit _, _, _, _, hq, h => hq _ _ h
  | .ret, _, _, _, hq, h => hq _ _ h
  | .rangeFunc g ps assign body, _, _, _, hq, h => by
    obtain ⟨hy, f, first, caps, ys, Inv, h1, h2, h3, h4, h5⟩ := h
    exact ⟨hy, f, first, caps, ys, Inv, h1, h2, h3, fun i vs τ hv hi => ⟨(h4 i vs τ hv hi).1, vcode_mono assign (thenN_mono fun _ h => vsay_mono (fun _ h => vcode_mono body (roundV_mono hq) h) h) (h4 i vs τ hv hi).2⟩, fun τ h => hq _ _ (h5 τ h)⟩
  | .scope _, _, _, _, _, h => h.elim
  | .label _, _, _, _, _, h => h.elim
  | .goto _, _, _, _, _, h => h.elim
  | .refuse _, _, _, _, _, h => h.elim
theorem vcode_loop {α : Type} (gs : α → List (Nat × L)) (ms : α → List (Key × M)) (Pr : α → Prop) (m : α → Nat) (x0 : α) {c : Code} {Q : Exit → VS → Prop} {σ : VS} (h0 : Pr x0) (hw : Wk σ (gs x0) (ms x0))
    (hr : ∀ x, Pr x → vcode P Γ Sp Yp c (thenV (fun σ2 => ∃ y, Wk σ2 (gs y) (ms y) ∧ Pr y ∧ m y < m x) Q) (VS.of (gs x) (ms x))) : vcode P Γ Sp Yp (.loop c) Q σ := by
  refine ⟨fun n σ' => ∃ x, Pr x ∧ m x = n ∧ σ' = VS.of (gs x) (ms x), m x0, _, .inr hw.s, ⟨x0, h0, rfl, rfl⟩, ?_⟩
  rintro n σ' ⟨x, hx, rfl, rfl⟩
  refine vcode_mono c (fun e σ h => ?_) (hr x hx)
  cases e with
  | normal =>
    obtain ⟨y, h1, h2, h3⟩ := h
    exact ⟨m y, _, .inr h1.s, ⟨y, h2, rfl, rfl⟩, h3⟩
  | _ => exact h
def vkeys : List (Nat × L) → List (Key × M)
  | [] => []
  | (t, l) :: r => (.v t, .cell l) :: vkeys r
def vslots : List (Key × M) → List (Nat × L)
  | [] => []
  | (.v t, m) :: r => (t, vslot m) :: vslots r
  | _ :: r => vslots r
def dropv : List (Key × M) → List (Key × M)
  | [] => []
  | (.v _, _) :: r => dropv r
  | x :: r => x :: dropv r
def noV : List (Key × M) → Bool
  | [] => true
  | (.v _, _) :: _ => false
  | _ :: r => noV r
def liveL : List (Nat × L) → Bool
  | [] => true
  | (_, .dead) :: _ => false
  | _ :: r => liveL r
theorem vslots_look {t : Nat} : ∀ {ms : List (Key × M)}, lookG t (vslots ms) = vslot (look (.v t) .none ms)
  | [] => rfl
  | (k, m) :: r => by
    cases k with
    | v t' =>
      simp only [vslots, lookG, look, Key.v.injEq]
      by_cases h : t = t'
      · simp [h]
      · rw [if_neg h, if_neg h, vslots_look]
    | _ => simp only [vslots, look, reduceCtorEq, if_false]; exact vslots_look
theorem dropv_look {k : Key} : ∀ {ms : List (Key × M)}, look k .none (dropv ms) = match k with | .v _ => .none | k => look k .none ms
  | [] => by cases k <;> rfl
  | (k', m) :: r => by
    have ih := dropv_look (k := k) (ms := r)
    cases k' with
    | v t' =>
      simp only [dropv]; rw [ih]
      cases k <;> simp [look]
    | _ =>
      simp only [dropv, look]; rw [ih]
      cases k <;> simp
theorem of_back {gs : List (Nat × L)} {ms : List (Key × M)} : (VS.of gs ms).back = VS.of (vslots ms) (dropv ms) := by
  unfold VS.back VS.of
  congr 1
  · funext t; exact vslots_look.symm
  · funext k; rw [dropv_look]; cases k <;> rfl
theorem look_vkeys {k : Key} (hk : ∀ t, k ≠ .v t) {ms : List (Key × M)} : ∀ {gs : List (Nat × L)}, look k .none (vkeys gs ++ ms) = look k .none ms
  | [] => rfl
  | (t, l) :: r => by
    show look k .none ((.v t, .cell l) :: (vkeys r ++ ms)) = _
    simp only [look]; rw [if_neg (hk t), look_vkeys hk]
theorem noV_look {t : Nat} : ∀ {ms : List (Key × M)}, noV ms = true → look (.v t) .none ms = .none
  | [], _ => rfl
  | (k, m) :: r, h => by
    cases k with
    | v t' => simp [noV] at h
    | _ => simp only [look, reduceCtorEq, if_false]; exact noV_look (by simpa [noV] using h)
theorem look_vkeys_v {t : Nat} {ms : List (Key × M)} (hn : noV ms = true) : ∀ {gs : List (Nat × L)}, vslot (look (.v t) .none (vkeys gs ++ ms)) = lookG t gs
  | [] => by show vslot (look (.v t) .none ms) = _; rw [noV_look hn]; rfl
  | (t', l) :: r => by
    show vslot (look (.v t) .none ((.v t', .cell l) :: (vkeys r ++ ms))) = _
    simp only [look, lookG, Key.v.injEq]
    by_cases h : t = t'
    · simp [h, vslot]
    · rw [if_neg h, if_neg h, look_vkeys_v hn]
theorem opn_of {gs : List (Nat × L)} {ms : List (Key × M)} (hn : noV ms = true) : (VS.of [] (vkeys gs ++ ms)).opn = VS.of gs (vkeys gs ++ ms) := by
  unfold VS.opn VS.of
  congr 1
  funext t; exact look_vkeys_v hn
theorem back_of {gs : List (Nat × L)} {ms : List (Key × M)} (hn : noV ms = true) : (VS.of [] (vkeys gs ++ ms)).back = VS.of gs ms := by
  unfold VS.back VS.of
  congr 1
  · funext t; exact look_vkeys_v hn
  · funext k
    cases k with
    | v t => exact (noV_look hn).symm
    | _ => exact look_vkeys (by simp)
theorem vkeys_look {t : Nat} {l : L} {ms : List (Key × M)} (hn : noV ms = true) : ∀ {gs : List (Nat × L)}, look (.v t) .none (vkeys gs ++ ms) = .cell l → (t, l) ∈ gs ∧ lookG t gs = l
  | [], h => by
    have h' : look (.v t) .none ms = .cell l := h
    rw [noV_look hn] at h'; cases h'
  | (t', l') :: r, h => by
    have h' : look (.v t) .none ((.v t', .cell l') :: (vkeys r ++ ms)) = .cell l := h
    simp only [look, Key.v.injEq] at h'
    by_cases e : t = t'
    · rw [if_pos e] at h'
      cases h'; subst e
      exact ⟨by simp, by simp [lookG]⟩
    · rw [if_neg e] at h'
      obtain ⟨p, q⟩ := vkeys_look hn h'
      exact ⟨List.mem_cons_of_mem _ p, by simp only [lookG]; rw [if_neg e]; exact q⟩
theorem liveL_mem : ∀ {gs : List (Nat × L)}, liveL gs = true → ∀ t l, (t, l) ∈ gs → l ≠ .dead
  | [], _, t, l, hm => by cases hm
  | (t', l') :: r, h, t, l, hm => by
    have h1 : l' ≠ .dead ∧ liveL r = true := by cases l' <;> simp [liveL] at h ⊢ <;> exact h
    rcases List.mem_cons.1 hm with e | hm
    · cases e; exact h1.1
    · exact liveL_mem h1.2 t l hm
theorem Wk.beside {σ τ : VS} {gs : List (Nat × L)} {ms : List (Key × M)} (h : Wk τ gs ms) (hn : noV ms = true) (hm : ∀ k, (∀ t, k ≠ .v t) → σ.mem k = τ.mem k) (hv : ∀ t l, (t, l) ∈ gs → lookG t gs = l → ∃ l', σ.mem (.v t) = .cell l' ∧ wkL (fun k => look k .none ms) τ.mem l l') : WkS σ (VS.of [] (vkeys gs ++ ms)) := by
  have hs := h.s
  have e1 : ∀ k, (∀ t, k ≠ .v t) → (VS.of [] (vkeys gs ++ ms)).mem k = (VS.of gs ms).mem k := fun k hk => look_vkeys hk
  have hL : ∀ l l', wkL (VS.of gs ms).mem τ.mem l l' → wkL (VS.of [] (vkeys gs ++ ms)).mem σ.mem l l' := fun l l' h => by
    cases l with
    | own t j => simp only [wkL] at h ⊢; rw [e1 _ (by simp)]; exact h
    | arr t g => simp only [wkL] at h ⊢; rw [e1 _ (by simp), hm _ (by simp)]; exact h
    | bsl t => simp only [wkL] at h ⊢; rw [e1 _ (by simp), hm _ (by simp)]; exact h
    | _ => simpa only [wkL] using h
  refine ⟨?_, fun t l hb => ?_, fun t => ?_, fun t n hb => ?_, fun t g e es xs hb => ?_⟩
  · rw [hm _ (by simp), e1 _ (by simp)]; exact hs.gho
  · obtain ⟨p, q⟩ := vkeys_look hn hb
    obtain ⟨l', k1, k2⟩ := hv t l p q
    exact ⟨l', k1, hL _ _ k2⟩
  · simp only [VS.of, lookG, wkL]
  · rw [e1 _ (by simp)] at hb
    obtain ⟨k1, k2, k3, k4⟩ := hs.boxes t n hb
    refine ⟨by rw [hm _ (by simp)]; exact k1, by rw [e1 _ (by simp)]; exact k2, by rw [e1 _ (by simp), hm _ (by simp)]; exact k3, fun j hj => ?_⟩
    obtain ⟨l, l', m1, m2, m3⟩ := k4 j hj
    exact ⟨l, l', by rw [e1 _ (by simp)]; exact m1, by rw [hm _ (by simp)]; exact m2, hL _ _ m3⟩
  · rw [e1 _ (by simp)] at hb
    rcases hs.arrs t g e es xs hb with ⟨g0, k1, k2⟩ | ⟨k1, k2, k3⟩
    · exact .inl ⟨g0, by rw [hm _ (by simp)]; exact k1, by rw [e1 _ (by simp), hm _ (by simp)]; exact k2⟩
    · exact .inr ⟨k1, k2, by rw [hm _ (by simp)]; exact k3⟩
theorem Wk.keep {σ : VS} {gs : List (Nat × L)} {ms : List (Key × M)} (h : Wk σ gs ms) (hn : noV ms = true) : WkS σ.keep (VS.of [] (vkeys gs ++ ms)) :=
  h.beside hn (fun k hk => by cases k <;> first | rfl | exact ((hk _) rfl).elim) fun t l hm _ => ⟨_, rfl, wkGs_mem h.1 _ hm⟩
theorem Wk.again {σ : VS} {gs : List (Nat × L)} {ms : List (Key × M)} (h : Wk σ.back gs ms) (hn : noV ms = true) (hl : liveL gs = true) : WkS σ.shut (VS.of [] (vkeys gs ++ ms)) := by
  refine h.beside hn (fun k hk => by cases k <;> first | rfl | exact ((hk _) rfl).elim) fun t l hm _ => ?_
  have h1 := wkGs_mem h.1 _ hm
  have h2 := liveL_mem hl t l hm
  simp only [VS.back] at h1
  show ∃ l', σ.mem (.v t) = .cell l' ∧ _
  cases hv : σ.mem (.v t) with
  | cell l' => rw [hv] at h1; exact ⟨l', rfl, h1⟩
  | _ => rw [hv] at h1; cases l <;> simp [vslot, wkL] at h1 h2

def rangeV {α : Type} (gs : List (Nat × L)) (ms : α → List (Key × M)) (Pr : Nat → α → Prop) (i : Nat) (Q : Exit → VS → Prop) : Exit → VS → Prop
  | .normal, σ => ∃ y, Wk σ.back gs (ms y) ∧ Pr (i + 1) y
  | .ret, σ => Q .ret σ.back
  | .exit id, σ => Q (.exit id) σ.back
  | _, _ => False
def calm : Code → Bool
  | .skip => true
  | .region _ _ _ => true
  | .seq x y => calm x && calm y
  | _ => false
theorem vcode_calm : ∀ (c : Code) {Q : Exit → VS → Prop} {σ : VS}, calm c = true → vcode P Γ Sp Yp c Q σ → vcode P Γ Sp Yp c (thenN (Q .normal)) σ
  | .skip, _, _, _, h => h
  | .region _ _ false, _, _, _, h => h
  | .region _ _ true, _, _, _, h => h
  | .seq x y, Q, σ, hc, h => by
    simp only [calm, Bool.and_eq_true] at hc
    have h1 := vcode_calm x hc.1 h
    refine vcode_mono x (fun e σ h => ?_) h1
    cases e with
    | normal => exact vsay_mono (K := vcode P Γ Sp Yp y Q) (K' := vcode P Γ Sp Yp y (thenN (Q .normal))) (fun σ h => vcode_calm y hc.2 h) h
    | _ => exact h.elim
theorem vcode_range {α : Type} (gs : List (Nat × L)) (ms : α → List (Key × M)) (Pr : Nat → α → Prop) (x0 : α) {g : Operand} {ps : Array Nat} {assign body : Code} {Q : Exit → VS → Prop} {σ : VS} {f : FuncId} {first caps : List V} {ys : List (List V)} (hI : SpecI2 P Γ f first caps ys) (hg : σ.ev Γ g = .p (.fn f first caps)) (hc : calm assign = true) (hn : ∀ x, noV (ms x) = true) (hl : liveL gs = true) (h0 : Pr 0 x0) (hw : Wk σ gs (ms x0)) (hlen : ∀ vs ∈ ys, vs.length = ps.size)
    (hr : ∀ i vs x, ys[i]? = some vs → Pr i x → vcode P Γ Sp noY (.seq assign body) (rangeV gs ms Pr i Q) (VS.puts (ps.toList.zip vs) (VS.of gs (vkeys gs ++ ms x)))) (hend : ∀ x, Pr ys.length x → Q .normal (VS.of gs (ms x))) : vcode P Γ Sp noY (.rangeFunc g ps assign body) Q σ := by
  refine ⟨rfl, f, first, caps, ys, fun i τ => ∃ x, Pr i x ∧ τ = VS.of [] (vkeys gs ++ ms x), hg, hI, ⟨_, hw.keep (hn x0), x0, h0, rfl⟩, ?_, ?_⟩
  · rintro i vs τ hv ⟨x, hx, rfl⟩
    refine ⟨hlen vs (List.mem_of_getElem? hv), ?_⟩
    rw [opn_of (hn x)]
    have h1 := vcode_calm assign hc (hr i vs x hv hx)
    refine vcode_mono assign (thenN_mono fun σ h => vsay_mono (fun σ h => vcode_mono body (fun e σ h => ?_) h) h) h1
    cases e with
    | normal =>
      obtain ⟨y, h2, h3⟩ := h
      exact ⟨_, h2.again (hn y) hl, y, h3, rfl⟩
    | ret => exact h
    | exit id => exact h
    | _ => exact h
  · rintro τ ⟨x, hx, rfl⟩
    rw [back_of (hn x)]
    exact hend x hx

@[congr] theorem vsay_congr {K : VS → Prop} {σ σ' : VS} (h : σ = σ') : vsay K σ = vsay K σ' := by rw [h]
end Go.Vm

namespace Go.Vm
variable {Γ : Nat → Option (List V)} {P : Program} {Sp : FuncId → List V → R → Prop} {Yp : Nat → Nat → List V → Prop} {σ : VS} {K : Eff → Prop}
theorem rOf_one {x : V} : rOf [x] = R.v x := Eq.trans rfl rfl
theorem rOf_two {x y : V} : rOf [x, y] = R.v2 x y := Eq.trans rfl rfl
theorem rOf_three {x y z : V} : rOf [x, y, z] = R.v3 x y z := Eq.trans rfl rfl
theorem pubWith_nil' {f : L → Option Pub} : pubWith f [] = some ⟨[], [], []⟩ := Eq.trans rfl rfl
theorem pubWith_bind {f : L → Option Pub} {l : L} {r : List L} : pubWith f (l :: r) = (f l).bind fun q => (pubWith f r).map fun qs => ⟨q.v :: qs.vs, q.rd ++ qs.rd, q.fz ++ qs.fz⟩ := by
  simp only [pubWith]; cases f l <;> rfl
theorem pub1up {v : V} : pub1 σ (.p v) = some ⟨v, [], []⟩ := Eq.trans rfl rfl
theorem pub1unilS : pub1 σ .nilS = some ⟨.sl [], [], []⟩ := Eq.trans rfl rfl
theorem pub1ue0 : pub1 σ .e0 = some ⟨.sl [], [], []⟩ := Eq.trans rfl rfl
theorem pub1uarr {t g : Nat} : pub1 σ (.arr t g) = (curA σ t g).map fun x => ⟨.sl x.2, [.a t], [t]⟩ := Eq.trans rfl rfl
theorem curA_of {gs : List (Nat × L)} {ms : List (Key × M)} {t g : Nat} : curA (VS.of gs ms) t g = match look (.a t) .none ms with | .arr g' e es xs => if g = g' then some ((e, es), xs) else none | _ => none := Eq.trans rfl rfl
theorem call_v {d g : Nat} {first caps as vs : List V} {args : List L} {x : V} {rd : List Key} {fz : List Nat} (hs : Sp g as (R.v x)) (hq : pubWith (pub1 σ) args = some ⟨vs, rd, fz⟩) (hvs : first ++ vs ++ caps = as) (hK : K ⟨.p x, rd, frzs fz⟩) : vcallF Sp σ (some d) (.p (.fn g first caps)) args K := by
  refine .inl ?_
  simp only [vcallP, hq, wantO_some]
  subst hvs
  exact ⟨_, hs, by simp [R.toL, R1.toL, RC.toL], by simpa [R.toL, R1.toL, RC.toL] using hK⟩
theorem call_v2 {d g : Nat} {first caps as vs : List V} {args : List L} {x y : V} {rd : List Key} {fz : List Nat} (hs : Sp g as (R.v2 x y)) (hq : pubWith (pub1 σ) args = some ⟨vs, rd, fz⟩) (hvs : first ++ vs ++ caps = as) (hK : K ⟨.tup [.p x, .p y], rd, frzs fz⟩) : vcallF Sp σ (some d) (.p (.fn g first caps)) args K := by
  refine .inl ?_
  simp only [vcallP, hq, wantO_some]
  subst hvs
  exact ⟨_, hs, by simp [R.toL, r1sToL, R1.toL, RC.toL], by simpa [R.toL, r1sToL, R1.toL, RC.toL] using hK⟩
theorem call_v3 {d g : Nat} {first caps as vs : List V} {args : List L} {x y z : V} {rd : List Key} {fz : List Nat} (hs : Sp g as (R.v3 x y z)) (hq : pubWith (pub1 σ) args = some ⟨vs, rd, fz⟩) (hvs : first ++ vs ++ caps = as) (hK : K ⟨.tup [.p x, .p y, .p z], rd, frzs fz⟩) : vcallF Sp σ (some d) (.p (.fn g first caps)) args K := by
  refine .inl ?_
  simp only [vcallP, hq, wantO_some]
  subst hvs
  exact ⟨_, hs, by simp [R.toL, r1sToL, R1.toL, RC.toL], by simpa [R.toL, r1sToL, R1.toL, RC.toL] using hK⟩
theorem vlen_sl {t : TypeId} {xs : List V} (h1 : arq P t = none) (h2 : (elq P t).isSome = true) : vlen σ P t (.p (.sl xs)) K = K ⟨.p (.i .i64 xs.length), [], []⟩ := by
  simp [vlen, h1, h2, lens, conts, need, wantO]
theorem vlen_nilS {t : TypeId} (h1 : arq P t = none) (h2 : (elq P t).isSome = true) : vlen σ P t .nilS K = K ⟨.p (.i .i64 0), [], []⟩ := by
  simp [vlen, h1, h2, lens, conts, need, wantO]
theorem vlen_arr {t : TypeId} {s g : Nat} (h1 : arq P t = none) (h2 : (elq P t).isSome = true) : vlen σ P t (.arr s g) K = wantO (curA σ s g) fun x => K ⟨.p (.i .i64 x.2.length), [.a s], []⟩ := by
  simp only [vlen, h1, h2, lens, conts, need]
  cases curA σ s g <;> simp [wantO]
theorem vlen_str {t : TypeId} {s : ByteArray} (h1 : arq P t = none) (h2 : isStr P t = true) : vlen σ P t (.p (.s s)) K = K ⟨.p (.i .i64 s.size), [], []⟩ := by
  simp [vlen, h1, h2, lens, need, wantO]
theorem vindexAddr_sl {t : TypeId} {xs : List V} {k : IntKind} {n : Int} : vindexAddr P σ t (.p (.sl xs)) (.p (.i k n)) K = wantO (elq P t) fun e => wantO (szq P e) fun es => atI xs n fun x => need (x.cells.length = es) (K ⟨.p (.ref x.cells), [], []⟩) := Eq.trans rfl rfl
theorem vindexAddr_arr {t : TypeId} {s g : Nat} {k : IntKind} {n : Int} : vindexAddr P σ t (.arr s g) (.p (.i k n)) K = wantO (elq P t) fun e => wantO (szq P e) fun es => wantO (curA σ s g) fun q => need (q.1.2 = es ∧ 0 ≤ n ∧ n < q.2.length) (K ⟨.ep s g n.toNat 0, [.a s], []⟩) := Eq.trans rfl rfl
theorem vload_ref1 {t : TypeId} {c : V} {r : List V} (h1 : szq P t = some 1) (h2 : agq P t = some false) : vload P σ t (.p (.ref (c :: r))) K = K ⟨.p c, [], []⟩ := by
  simp [vload, h1, h2, wantO, sub, unAggV]
theorem vload_refs {t : TypeId} {cs : List V} (h1 : szq P t = some cs.length) (h2 : agq P t = some true) : vload P σ t (.p (.ref cs)) K = K ⟨.p (.agg cs), [], []⟩ := by
  simp [vload, h1, h2, wantO, sub, unAggV]
theorem vload_own {t : TypeId} {s j : Nat} : vload P σ t (.own s j) K = wantO (szq P t) fun n => wantO (agq P t) fun ag => wantO (boxN σ s) fun m => need (j + n ≤ m) (wantO (cellsOf σ s j n) fun ls => wantO (unAgg ag ls) fun l => K ⟨l, .b s :: keysC s j n, []⟩) := Eq.trans rfl rfl
theorem vload_ep {t : TypeId} {s g i j : Nat} : vload P σ t (.ep s g i j) K = wantO (szq P t) fun n => wantO (agq P t) fun ag => wantO (curA σ s g) fun q => wantO (q.2[i]?) fun x => wantO (sub x.cells j n) fun cs => wantO (unAggV ag cs) fun v => K ⟨.p v, [.a s], []⟩ := Eq.trans rfl rfl
theorem vstore_own {t : TypeId} {s j : Nat} {x : L} : vstore P σ t (.own s j) x K = wantO (szq P t) fun n => wantO (boxN σ s) fun m => need (x.cells.length = n ∧ j + n ≤ m ∧ isNone (σ.mem (.f s)) = true ∧ x.cells.all L.isCell = true) (K ⟨.dead, [.b s, .f s], cellsW s j x.cells⟩) := Eq.trans rfl rfl
theorem vfieldAddr_own {t : TypeId} {s j f : Nat} : vfieldAddr P σ t (.own s j) f K = wantO (flq P t f) fun q => wantO (boxN σ s) fun m => need (j + q.2.1 + q.2.2 ≤ m) (K ⟨.own s (j + q.2.1), [.b s], []⟩) := Eq.trans rfl rfl
theorem vfieldAddr_ref {t : TypeId} {f : Nat} {cs : List V} : vfieldAddr P σ t (.p (.ref cs)) f K = wantO (flq P t f) fun q => K ⟨.p (.ref (cs.drop q.2.1)), [], []⟩ := Eq.trans rfl rfl
theorem look_nil {k : Key} {m : M} : look k m [] = m := Eq.trans rfl rfl
theorem isNone_none : isNone .none = true := Eq.trans rfl rfl
theorem isNone_box {n : Nat} : isNone (.box n) = false := Eq.trans rfl rfl
theorem isNone_cell {l : L} : isNone (.cell l) = false := Eq.trans rfl rfl
theorem isNone_frz : isNone .frz = false := Eq.trans rfl rfl
theorem isNone_arr {g es : Nat} {e : TypeId} {xs : List V} : isNone (.arr g e es xs) = false := Eq.trans rfl rfl
theorem boxN_of {gs : List (Nat × L)} {ms : List (Key × M)} {t : Nat} : boxN (VS.of gs ms) t = match look (.b t) .none ms with | .box n => some n | _ => none := Eq.trans rfl rfl
theorem cellsOf_zero {t j : Nat} : cellsOf σ t j 0 = some [] := Eq.trans rfl rfl
theorem cellsOf_of {gs : List (Nat × L)} {ms : List (Key × M)} {t j n : Nat} : cellsOf (VS.of gs ms) t j (n + 1) = match look (.c t j) .none ms with | .cell l => (cellsOf (VS.of gs ms) t (j + 1) n).map (l :: ·) | _ => none := by
  simp only [cellsOf, cellOf, of_mem]
  cases look (.c t j) .none ms <;> rfl

variable {Q : Exit → VS → Prop}
theorem c_assoc {x y z : Code} (h : vcode P Γ Sp Yp (.seq x (.seq y z)) Q σ) : vcode P Γ Sp Yp (.seq (.seq x y) z) Q σ := by
  rw [vcode_seq, vcode_seq]
  rw [vcode_seq] at h
  refine vcode_mono x (fun e σ h => ?_) h
  cases e with
  | normal =>
    rcases h with h | ⟨τ, hw, h⟩
    · exact .inl h
    · exact .inr ⟨τ, hw, h⟩
  | _ => exact h
theorem c_reg {id : Nat} {l : List Oper} {y : Code} (h : ∀ K : VS → Prop, (∀ σ, vcode P Γ Sp Yp y Q σ → K σ) → vops P Γ Sp l.toArray l σ K) : vcode P Γ Sp Yp (.seq (.region id l.toArray false) y) Q σ := .inl <| h _ fun _ h => .inl h
theorem c_draw {id : Nat} {l : List Oper} {y : Code} (h : ∀ K : VS → Prop, (∀ σ, vcode P Γ Sp Yp y Q σ → K σ) → vopsD P Γ Sp l.toArray l [] σ K) : vcode P Γ Sp Yp (.seq (.region id l.toArray true) y) Q σ := .inl <| h _ fun _ h => .inl h
theorem c_reg1 {id : Nat} {l : List Oper} (h : ∀ K : VS → Prop, (∀ σ, Q .normal σ → K σ) → vops P Γ Sp l.toArray l σ K) : vcode P Γ Sp Yp (.region id l.toArray false) Q σ := .inl <| h _ fun _ h => h
theorem c_draw1 {id : Nat} {l : List Oper} (h : ∀ K : VS → Prop, (∀ σ, Q .normal σ → K σ) → vopsD P Γ Sp l.toArray l [] σ K) : vcode P Γ Sp Yp (.region id l.toArray true) Q σ := .inl <| h _ fun _ h => h
theorem c_if {c : Operand} {x y z : Code} (b : Bool) (hc : σ.ev Γ c = .p (.b b)) (h1 : b = true → vcode P Γ Sp Yp (.seq x z) Q σ) (h2 : b = false → vcode P Γ Sp Yp (.seq y z) Q σ) : vcode P Γ Sp Yp (.seq (.cond c x y) z) Q σ := by
  rw [vcode_seq]
  exact vcode_if b hc h1 h2
theorem c_skip {z : Code} (h : vcode P Γ Sp Yp z Q σ) : vcode P Γ Sp Yp (.seq .skip z) Q σ := .inl h
theorem c_ret {z : Code} (h : Q .ret σ) : vcode P Γ Sp Yp (.seq .ret z) Q σ := h
theorem c_exit {id : Nat} {z : Code} (h : Q (.exit id) σ) : vcode P Γ Sp Yp (.seq (.exit id) z) Q σ := h
theorem c_block {id : Nat} {c z : Code} (h : vcode P Γ Sp Yp c (blockV id (thenV (fun σ => vcode P Γ Sp Yp z Q σ) Q)) σ) : vcode P Γ Sp Yp (.seq (.block id c) z) Q σ := by
  rw [vcode_seq, vcode_block]
  refine vcode_mono c (fun e σ h => ?_) h
  cases e with
  | normal => exact .inl h
  | exit id' =>
    rw [blockV_e] at h ⊢
    by_cases he : id' = id
    · rw [if_pos he] at h ⊢; exact .inl h
    · rw [if_neg he] at h ⊢; exact h
  | _ => exact h
def gdstL : List Oper → Nat → Option Tmp
  | [], _ => none
  | o :: _, 0 => o.dst
  | _ :: r, n + 1 => gdstL r n
theorem gdst_list {l : List Oper} {j : Nat} : gdst l.toArray j = gdstL l j := by
  unfold gdst
  rw [List.getElem?_toArray]
  induction l generalizing j with
  | nil => simp [gdstL]
  | cons o r ih =>
    cases j with
    | zero => simp [gdstL]
    | succ j => simpa [gdstL] using ih
theorem gdstL_zero {o : Oper} {r : List Oper} : gdstL (o :: r) 0 = o.dst := Eq.trans rfl rfl
theorem gdstL_succ {o : Oper} {r : List Oper} {n : Nat} : gdstL (o :: r) (n + 1) = gdstL r n := Eq.trans rfl rfl
theorem rng_0 : List.range 0 = [] := Eq.trans rfl rfl
theorem rng_1 : List.range 1 = [0] := Eq.trans rfl rfl
theorem rng_2 : List.range 2 = [0, 1] := Eq.trans rfl rfl
theorem rng_3 : List.range 3 = [0, 1, 2] := Eq.trans rfl rfl
theorem rng_4 : List.range 4 = [0, 1, 2, 3] := Eq.trans rfl rfl
theorem rng_5 : List.range 5 = [0, 1, 2, 3, 4] := Eq.trans rfl rfl
theorem rng_6 : List.range 6 = [0, 1, 2, 3, 4, 5] := Eq.trans rfl rfl
theorem rng_7 : List.range 7 = [0, 1, 2, 3, 4, 5, 6] := Eq.trans rfl rfl
theorem rng_8 : List.range 8 = [0, 1, 2, 3, 4, 5, 6, 7] := Eq.trans rfl rfl
theorem rng_9 : List.range 9 = [0, 1, 2, 3, 4, 5, 6, 7, 8] := Eq.trans rfl rfl
theorem rng_10 : List.range 10 = [0, 1, 2, 3, 4, 5, 6, 7, 8, 9] := Eq.trans rfl rfl
theorem rng_11 : List.range 11 = [0, 1, 2, 3, 4, 5, 6, 7, 8, 9, 10] := Eq.trans rfl rfl
theorem rng_12 : List.range 12 = [0, 1, 2, 3, 4, 5, 6, 7, 8, 9, 10, 11] := Eq.trans rfl rfl
theorem len_cons {x : V} {xs : List V} {es : Nat} : (∀ y ∈ x :: xs, y.cells.length = es) ↔ x.cells.length = es ∧ ∀ y ∈ xs, y.cells.length = es := List.forall_mem_cons
theorem len_nil {es : Nat} : (∀ y ∈ ([] : List V), y.cells.length = es) ↔ True := by simp
theorem vc_agg {cs : List V} : (V.agg cs).cells = cs := Eq.trans rfl rfl
theorem vc_b {b : Bool} : (V.b b).cells = [.b b] := Eq.trans rfl rfl
theorem vc_i {k : IntKind} {n : Int} : (V.i k n).cells = [.i k n] := Eq.trans rfl rfl
theorem vc_s {s : ByteArray} : (V.s s).cells = [.s s] := Eq.trans rfl rfl
theorem vc_sl {xs : List V} : (V.sl xs).cells = [.sl xs] := Eq.trans rfl rfl
theorem vc_fn {f : FuncId} {a b : List V} : (V.fn f a b).cells = [.fn f a b] := Eq.trans rfl rfl
theorem vc_ref {cs : List V} : (V.ref cs).cells = [.ref cs] := Eq.trans rfl rfl
theorem lc_p {v : V} : (L.p v).cells = v.cells.map .p := Eq.trans rfl rfl
theorem lc_agg {ls : List L} : (L.agg ls).cells = ls := Eq.trans rfl rfl
theorem lc_nilS : L.nilS.cells = [.nilS] := Eq.trans rfl rfl
theorem lc_e0 : L.e0.cells = [.e0] := Eq.trans rfl rfl
theorem lc_own {t j : Nat} : (L.own t j).cells = [.own t j] := Eq.trans rfl rfl
theorem lc_arr {t g : Nat} : (L.arr t g).cells = [.arr t g] := Eq.trans rfl rfl
theorem ex_box {m j : Nat} : (∃ n, M.box m = M.box n ∧ j < n) ↔ j < m := ⟨fun ⟨n, h, k⟩ => by cases h; exact k, fun h => ⟨m, rfl, h⟩⟩
theorem draw_ok {ops : Array Oper} {tr : List Tr} {K : Prop} (h : indepOk ops tr = true) (k : K) : need (indepOk ops tr = true) K := ⟨h, k⟩
end Go.Vm

namespace Go.Vm
variable {Γ : Nat → Option (List V)} {P : Program} {Sp : FuncId → List V → R → Prop} {σ : VS} {K : VS → Prop} {ops : Array Oper} {r : List Oper} {tr : List Tr} {t0 : TypeId} {p : String} {af : Array Edge}
theorem s_move {d : Option Nat} {x : Operand} : vops P Γ Sp ops (⟨d, (.move x), t0, p, af, none⟩ :: r) σ K = (fun e => vops P Γ Sp ops r (σ.apply (d) e) K) ⟨σ.ev Γ x, [], []⟩ := Eq.trans rfl rfl
theorem d_move {d : Option Nat} {x : Operand} : vopsD P Γ Sp ops (⟨d, (.move x), t0, p, af, none⟩ :: r) tr σ K = (fun e => vopsD P Γ Sp ops r (e.tr :: tr) (σ.apply (d) e) K) ⟨σ.ev Γ x, [], []⟩ := Eq.trans rfl rfl
theorem s_assign {d : Option Nat} {x : Operand} : vops P Γ Sp ops (⟨d, (.assign x), t0, p, af, none⟩ :: r) σ K = (fun e => vops P Γ Sp ops r (σ.apply (d) e) K) ⟨σ.ev Γ x, [], []⟩ := Eq.trans rfl rfl
theorem d_assign {d : Option Nat} {x : Operand} : vopsD P Γ Sp ops (⟨d, (.assign x), t0, p, af, none⟩ :: r) tr σ K = (fun e => vopsD P Γ Sp ops r (e.tr :: tr) (σ.apply (d) e) K) ⟨σ.ev Γ x, [], []⟩ := Eq.trans rfl rfl
theorem s_pick {d : Option Nat} {c x y : Operand} : vops P Γ Sp ops (⟨d, (.pick c x y), t0, p, af, none⟩ :: r) σ K = vbool (σ.ev Γ c) ((fun e => vops P Γ Sp ops r (σ.apply (d) e) K) ⟨σ.ev Γ x, [], []⟩) ((fun e => vops P Γ Sp ops r (σ.apply (d) e) K) ⟨σ.ev Γ y, [], []⟩) := Eq.trans rfl rfl
theorem d_pick {d : Option Nat} {c x y : Operand} : vopsD P Γ Sp ops (⟨d, (.pick c x y), t0, p, af, none⟩ :: r) tr σ K = vbool (σ.ev Γ c) ((fun e => vopsD P Γ Sp ops r (e.tr :: tr) (σ.apply (d) e) K) ⟨σ.ev Γ x, [], []⟩) ((fun e => vopsD P Γ Sp ops r (e.tr :: tr) (σ.apply (d) e) K) ⟨σ.ev Γ y, [], []⟩) := Eq.trans rfl rfl
theorem s_alloc {d : Nat} {t : TypeId} : vops P Γ Sp ops (⟨some d, (.alloc t), t0, p, af, none⟩ :: r) σ K = wantO (zeq P t) fun ls => newBox σ d ls (fun e => vops P Γ Sp ops r (σ.apply (some d) e) K) := Eq.trans rfl rfl
theorem d_alloc {d : Nat} {t : TypeId} : vopsD P Γ Sp ops (⟨some d, (.alloc t), t0, p, af, none⟩ :: r) tr σ K = wantO (zeq P t) fun ls => newBox σ d ls (fun e => vopsD P Γ Sp ops r (e.tr :: tr) (σ.apply (some d) e) K) := Eq.trans rfl rfl
theorem s_box {d : Nat} {t : TypeId} {x : Operand} : vops P Γ Sp ops (⟨some d, (.box t x), t0, p, af, none⟩ :: r) σ K = newBox σ d (σ.ev Γ x).cells (fun e => vops P Γ Sp ops r (σ.apply (some d) e) K) := Eq.trans rfl rfl
theorem d_box {d : Nat} {t : TypeId} {x : Operand} : vopsD P Γ Sp ops (⟨some d, (.box t x), t0, p, af, none⟩ :: r) tr σ K = newBox σ d (σ.ev Γ x).cells (fun e => vopsD P Γ Sp ops r (e.tr :: tr) (σ.apply (some d) e) K) := Eq.trans rfl rfl
theorem s_build {d : Option Nat} {t : TypeId} {ps : List (Nat × Operand)} : vops P Γ Sp ops (⟨d, (.build t ps.toArray), t0, p, af, none⟩ :: r) σ K = wantO (zeq P t) fun z => wantO (plq P t) fun pl => wantO (lfill pl z (ps.map fun x => (x.1, (σ.ev Γ x.2).cells))) fun ls => need ((ps.all fun x => (σ.ev Γ x.2).cells.all L.isCell) = true) ((fun e => vops P Γ Sp ops r (σ.apply (d) e) K) ⟨mkAgg ls, [], []⟩) := Eq.trans rfl rfl
theorem d_build {d : Option Nat} {t : TypeId} {ps : List (Nat × Operand)} : vopsD P Γ Sp ops (⟨d, (.build t ps.toArray), t0, p, af, none⟩ :: r) tr σ K = wantO (zeq P t) fun z => wantO (plq P t) fun pl => wantO (lfill pl z (ps.map fun x => (x.1, (σ.ev Γ x.2).cells))) fun ls => need ((ps.all fun x => (σ.ev Γ x.2).cells.all L.isCell) = true) ((fun e => vopsD P Γ Sp ops r (e.tr :: tr) (σ.apply (d) e) K) ⟨mkAgg ls, [], []⟩) := Eq.trans rfl rfl
theorem s_buildSlice {d : Nat} {t : TypeId} {n : Nat} {ps : List (Nat × Operand)} : vops P Γ Sp ops (⟨some d, (.buildSlice t n ps.toArray), t0, p, af, none⟩ :: r) σ K = vbuildSlice P σ d t n (ps.map (·.1)) (ps.map fun x => σ.ev Γ x.2) (fun e => vops P Γ Sp ops r (σ.apply (some d) e) K) := Eq.trans rfl rfl
theorem d_buildSlice {d : Nat} {t : TypeId} {n : Nat} {ps : List (Nat × Operand)} : vopsD P Γ Sp ops (⟨some d, (.buildSlice t n ps.toArray), t0, p, af, none⟩ :: r) tr σ K = vbuildSlice P σ d t n (ps.map (·.1)) (ps.map fun x => σ.ev Γ x.2) (fun e => vopsD P Γ Sp ops r (e.tr :: tr) (σ.apply (some d) e) K) := Eq.trans rfl rfl
theorem s_load {d : Option Nat} {t : TypeId} {x : Operand} : vops P Γ Sp ops (⟨d, (.load t x), t0, p, af, none⟩ :: r) σ K = vload P σ t (σ.ev Γ x) (fun e => vops P Γ Sp ops r (σ.apply (d) e) K) := Eq.trans rfl rfl
theorem d_load {d : Option Nat} {t : TypeId} {x : Operand} : vopsD P Γ Sp ops (⟨d, (.load t x), t0, p, af, none⟩ :: r) tr σ K = vload P σ t (σ.ev Γ x) (fun e => vopsD P Γ Sp ops r (e.tr :: tr) (σ.apply (d) e) K) := Eq.trans rfl rfl
theorem s_store {d : Option Nat} {t : TypeId} {x y : Operand} : vops P Γ Sp ops (⟨d, (.store t x y), t0, p, af, none⟩ :: r) σ K = vstore P σ t (σ.ev Γ x) (σ.ev Γ y) (fun e => vops P Γ Sp ops r (σ.apply (d) e) K) := Eq.trans rfl rfl
theorem d_store {d : Option Nat} {t : TypeId} {x y : Operand} : vopsD P Γ Sp ops (⟨d, (.store t x y), t0, p, af, none⟩ :: r) tr σ K = vstore P σ t (σ.ev Γ x) (σ.ev Γ y) (fun e => vopsD P Γ Sp ops r (e.tr :: tr) (σ.apply (d) e) K) := Eq.trans rfl rfl
theorem s_bin {d : Option Nat} {o : BinOp} {t t2 : TypeId} {x y : Operand} : vops P Γ Sp ops (⟨d, (.binOp o t x y t2), t0, p, af, none⟩ :: r) σ K = vbin P t (Operand.isConst y) σ o (σ.ev Γ x) (σ.ev Γ y) (fun e => vops P Γ Sp ops r (σ.apply (d) e) K) := Eq.trans rfl rfl
theorem d_bin {d : Option Nat} {o : BinOp} {t t2 : TypeId} {x y : Operand} : vopsD P Γ Sp ops (⟨d, (.binOp o t x y t2), t0, p, af, none⟩ :: r) tr σ K = vbin P t (Operand.isConst y) σ o (σ.ev Γ x) (σ.ev Γ y) (fun e => vopsD P Γ Sp ops r (e.tr :: tr) (σ.apply (d) e) K) := Eq.trans rfl rfl
theorem s_un {d : Option Nat} {o : UnOp} {t : TypeId} {x : Operand} : vops P Γ Sp ops (⟨d, (.unOp o t x), t0, p, af, none⟩ :: r) σ K = vun o (σ.ev Γ x) (fun e => vops P Γ Sp ops r (σ.apply (d) e) K) := Eq.trans rfl rfl
theorem d_un {d : Option Nat} {o : UnOp} {t : TypeId} {x : Operand} : vopsD P Γ Sp ops (⟨d, (.unOp o t x), t0, p, af, none⟩ :: r) tr σ K = vun o (σ.ev Γ x) (fun e => vopsD P Γ Sp ops r (e.tr :: tr) (σ.apply (d) e) K) := Eq.trans rfl rfl
theorem s_conv {d : Option Nat} {t t2 : TypeId} {x : Operand} : vops P Γ Sp ops (⟨d, (.convert t t2 x), t0, p, af, none⟩ :: r) σ K = vconv P t t2 (σ.ev Γ x) (fun e => vops P Γ Sp ops r (σ.apply (d) e) K) := Eq.trans rfl rfl
theorem d_conv {d : Option Nat} {t t2 : TypeId} {x : Operand} : vopsD P Γ Sp ops (⟨d, (.convert t t2 x), t0, p, af, none⟩ :: r) tr σ K = vconv P t t2 (σ.ev Γ x) (fun e => vopsD P Γ Sp ops r (e.tr :: tr) (σ.apply (d) e) K) := Eq.trans rfl rfl
theorem s_makeFunc {d : Option Nat} {f : FuncId} {xs ys : List Operand} : vops P Γ Sp ops (⟨d, (.makeFunc (.func f) xs.toArray ys.toArray), t0, p, af, none⟩ :: r) σ K = vmakeFunc σ f (xs.map (σ.ev Γ)) (ys.map (σ.ev Γ)) (fun e => vops P Γ Sp ops r (σ.apply (d) e) K) := Eq.trans rfl rfl
theorem d_makeFunc {d : Option Nat} {f : FuncId} {xs ys : List Operand} : vopsD P Γ Sp ops (⟨d, (.makeFunc (.func f) xs.toArray ys.toArray), t0, p, af, none⟩ :: r) tr σ K = vmakeFunc σ f (xs.map (σ.ev Γ)) (ys.map (σ.ev Γ)) (fun e => vopsD P Γ Sp ops r (e.tr :: tr) (σ.apply (d) e) K) := Eq.trans rfl rfl
theorem s_makeSlice {d : Nat} {t : TypeId} {x y : Operand} : vops P Γ Sp ops (⟨some d, (.makeSlice t x y), t0, p, af, none⟩ :: r) σ K = vmakeSlice P σ d t (σ.ev Γ x) (σ.ev Γ y) (fun e => vops P Γ Sp ops r (σ.apply (some d) e) K) := Eq.trans rfl rfl
theorem d_makeSlice {d : Nat} {t : TypeId} {x y : Operand} : vopsD P Γ Sp ops (⟨some d, (.makeSlice t x y), t0, p, af, none⟩ :: r) tr σ K = vmakeSlice P σ d t (σ.ev Γ x) (σ.ev Γ y) (fun e => vopsD P Γ Sp ops r (e.tr :: tr) (σ.apply (some d) e) K) := Eq.trans rfl rfl
theorem s_slice {d : Option Nat} {t : TypeId} {x : Operand} {lo hi mx : Option Operand} : vops P Γ Sp ops (⟨d, (.slice t x lo hi mx), t0, p, af, none⟩ :: r) σ K = vsl (winM Γ) P σ t (σ.ev Γ x) (lo.map (σ.ev Γ)) (hi.map (σ.ev Γ)) (mx.map (σ.ev Γ)) (fun e => vops P Γ Sp ops r (σ.apply (d) e) K) := Eq.trans rfl rfl
theorem d_slice {d : Option Nat} {t : TypeId} {x : Operand} {lo hi mx : Option Operand} : vopsD P Γ Sp ops (⟨d, (.slice t x lo hi mx), t0, p, af, none⟩ :: r) tr σ K = vsl (winM Γ) P σ t (σ.ev Γ x) (lo.map (σ.ev Γ)) (hi.map (σ.ev Γ)) (mx.map (σ.ev Γ)) (fun e => vopsD P Γ Sp ops r (e.tr :: tr) (σ.apply (d) e) K) := Eq.trans rfl rfl
theorem s_fieldAddr {d : Option Nat} {t : TypeId} {x : Operand} {f : Nat} : vops P Γ Sp ops (⟨d, (.fieldAddr t x f), t0, p, af, none⟩ :: r) σ K = vfieldAddr P σ t (σ.ev Γ x) f (fun e => vops P Γ Sp ops r (σ.apply (d) e) K) := Eq.trans rfl rfl
theorem d_fieldAddr {d : Option Nat} {t : TypeId} {x : Operand} {f : Nat} : vopsD P Γ Sp ops (⟨d, (.fieldAddr t x f), t0, p, af, none⟩ :: r) tr σ K = vfieldAddr P σ t (σ.ev Γ x) f (fun e => vopsD P Γ Sp ops r (e.tr :: tr) (σ.apply (d) e) K) := Eq.trans rfl rfl
theorem s_field {d : Option Nat} {t : TypeId} {x : Operand} {f : Nat} : vops P Γ Sp ops (⟨d, (.field t x f), t0, p, af, none⟩ :: r) σ K = vfield P t (σ.ev Γ x) f (fun e => vops P Γ Sp ops r (σ.apply (d) e) K) := Eq.trans rfl rfl
theorem d_field {d : Option Nat} {t : TypeId} {x : Operand} {f : Nat} : vopsD P Γ Sp ops (⟨d, (.field t x f), t0, p, af, none⟩ :: r) tr σ K = vfield P t (σ.ev Γ x) f (fun e => vopsD P Γ Sp ops r (e.tr :: tr) (σ.apply (d) e) K) := Eq.trans rfl rfl
theorem s_index {d : Option Nat} {t : TypeId} {x y : Operand} : vops P Γ Sp ops (⟨d, (.index t x y), t0, p, af, none⟩ :: r) σ K = vindex P t (σ.ev Γ x) (σ.ev Γ y) (fun e => vops P Γ Sp ops r (σ.apply (d) e) K) := Eq.trans rfl rfl
theorem d_index {d : Option Nat} {t : TypeId} {x y : Operand} : vopsD P Γ Sp ops (⟨d, (.index t x y), t0, p, af, none⟩ :: r) tr σ K = vindex P t (σ.ev Γ x) (σ.ev Γ y) (fun e => vopsD P Γ Sp ops r (e.tr :: tr) (σ.apply (d) e) K) := Eq.trans rfl rfl
theorem s_extract {d : Option Nat} {x : Operand} {i : Nat} : vops P Γ Sp ops (⟨d, (.extract x i), t0, p, af, none⟩ :: r) σ K = vextract (σ.ev Γ x) i (fun e => vops P Γ Sp ops r (σ.apply (d) e) K) := Eq.trans rfl rfl
theorem d_extract {d : Option Nat} {x : Operand} {i : Nat} : vopsD P Γ Sp ops (⟨d, (.extract x i), t0, p, af, none⟩ :: r) tr σ K = vextract (σ.ev Γ x) i (fun e => vopsD P Γ Sp ops r (e.tr :: tr) (σ.apply (d) e) K) := Eq.trans rfl rfl
theorem s_len {d : Option Nat} {x : Operand} {t : TypeId} : vops P Γ Sp ops (⟨d, (.call ⟨.builtin .len, [x].toArray, [t].toArray⟩), t0, p, af, none⟩ :: r) σ K = vlen σ P t (σ.ev Γ x) (fun e => vops P Γ Sp ops r (σ.apply (d) e) K) := Eq.trans rfl rfl
theorem d_len {d : Option Nat} {x : Operand} {t : TypeId} : vopsD P Γ Sp ops (⟨d, (.call ⟨.builtin .len, [x].toArray, [t].toArray⟩), t0, p, af, none⟩ :: r) tr σ K = vlen σ P t (σ.ev Γ x) (fun e => vopsD P Γ Sp ops r (e.tr :: tr) (σ.apply (d) e) K) := Eq.trans rfl rfl
theorem s_max {d : Option Nat} {args : List Operand} {ats : Array TypeId} : vops P Γ Sp ops (⟨d, (.call ⟨.builtin .max, args.toArray, ats⟩), t0, p, af, none⟩ :: r) σ K = vminmax true (args.map (σ.ev Γ)) (fun e => vops P Γ Sp ops r (σ.apply (d) e) K) := Eq.trans rfl rfl
theorem d_max {d : Option Nat} {args : List Operand} {ats : Array TypeId} : vopsD P Γ Sp ops (⟨d, (.call ⟨.builtin .max, args.toArray, ats⟩), t0, p, af, none⟩ :: r) tr σ K = vminmax true (args.map (σ.ev Γ)) (fun e => vopsD P Γ Sp ops r (e.tr :: tr) (σ.apply (d) e) K) := Eq.trans rfl rfl
theorem s_min {d : Option Nat} {args : List Operand} {ats : Array TypeId} : vops P Γ Sp ops (⟨d, (.call ⟨.builtin .min, args.toArray, ats⟩), t0, p, af, none⟩ :: r) σ K = vminmax false (args.map (σ.ev Γ)) (fun e => vops P Γ Sp ops r (σ.apply (d) e) K) := Eq.trans rfl rfl
theorem d_min {d : Option Nat} {args : List Operand} {ats : Array TypeId} : vopsD P Γ Sp ops (⟨d, (.call ⟨.builtin .min, args.toArray, ats⟩), t0, p, af, none⟩ :: r) tr σ K = vminmax false (args.map (σ.ev Γ)) (fun e => vopsD P Γ Sp ops r (e.tr :: tr) (σ.apply (d) e) K) := Eq.trans rfl rfl
theorem s_append {d : Nat} {s x : Operand} {ts tx : TypeId} : vops P Γ Sp ops (⟨some d, (.call ⟨.builtin .append, [s, x].toArray, [ts, tx].toArray⟩), t0, p, af, none⟩ :: r) σ K = (if ts = tx then vappend P σ d ts (σ.ev Γ s) (σ.ev Γ x) (fun e => vops P Γ Sp ops r (σ.apply (some d) e) K) else vappZ P σ d ts tx (σ.ev Γ s) (σ.ev Γ x) (fun e => vops P Γ Sp ops r (σ.apply (some d) e) K)) := Eq.trans rfl rfl
theorem d_append {d : Nat} {s x : Operand} {ts tx : TypeId} : vopsD P Γ Sp ops (⟨some d, (.call ⟨.builtin .append, [s, x].toArray, [ts, tx].toArray⟩), t0, p, af, none⟩ :: r) tr σ K = (if ts = tx then vappend P σ d ts (σ.ev Γ s) (σ.ev Γ x) (fun e => vopsD P Γ Sp ops r (e.tr :: tr) (σ.apply (some d) e) K) else vappZ P σ d ts tx (σ.ev Γ s) (σ.ev Γ x) (fun e => vopsD P Γ Sp ops r (e.tr :: tr) (σ.apply (some d) e) K)) := Eq.trans rfl rfl
theorem s_indexAddr {d : Option Nat} {t : TypeId} {x y : Operand} : vops P Γ Sp ops (⟨d, (.indexAddr t x y), t0, p, af, none⟩ :: r) σ K = vindexAddr P σ t (σ.ev Γ x) (σ.ev Γ y) (fun e => vops P Γ Sp ops r (σ.apply (d) e) K) := Eq.trans rfl rfl
theorem d_indexAddr {d : Option Nat} {t : TypeId} {x y : Operand} : vopsD P Γ Sp ops (⟨d, (.indexAddr t x y), t0, p, af, none⟩ :: r) tr σ K = vindexAddr P σ t (σ.ev Γ x) (σ.ev Γ y) (fun e => vopsD P Γ Sp ops r (e.tr :: tr) (σ.apply (d) e) K) := Eq.trans rfl rfl
theorem s_guard {d : Option Nat} {op : Op} {j : Nat} {want : Bool} : vops P Γ Sp ops (⟨d, op, t0, p, af, some (j, want)⟩ :: r) σ K = wantO (gdst ops j) fun g => vguard (σ.get g) want (vops P Γ Sp ops (⟨d, op, t0, p, af, none⟩ :: r) σ K) (vops P Γ Sp ops r (σ.apply (d) noEff) K) := Eq.trans rfl rfl
theorem s_call {d g : Nat} {f : Operand} {args : List Operand} {ats : Array TypeId} {first caps as vs : List V} {x : V} {rd : List Key} {fz : List Nat} (hs : Sp g as (R.v x)) (hf : σ.ev Γ f = .p (.fn g first caps)) (hq : pubWith (pub1 σ) (args.map (σ.ev Γ)) = some ⟨vs, rd, fz⟩) (hvs : first ++ vs ++ caps = as) (hK : vops P Γ Sp ops r (σ.apply (some d) (⟨.p x, rd, frzs fz⟩ : Eff)) K) : vops P Γ Sp ops (⟨some d, .call ⟨.value f, args.toArray, ats⟩, t0, p, af, none⟩ :: r) σ K := by
  rw [vops_cons, vop_call, hf]
  exact call_v hs hq hvs hK
theorem s_call2 {d g : Nat} {f : Operand} {args : List Operand} {ats : Array TypeId} {first caps as vs : List V} {x y : V} {rd : List Key} {fz : List Nat} (hs : Sp g as (R.v2 x y)) (hf : σ.ev Γ f = .p (.fn g first caps)) (hq : pubWith (pub1 σ) (args.map (σ.ev Γ)) = some ⟨vs, rd, fz⟩) (hvs : first ++ vs ++ caps = as) (hK : vops P Γ Sp ops r (σ.apply (some d) (⟨.tup [.p x, .p y], rd, frzs fz⟩ : Eff)) K) : vops P Γ Sp ops (⟨some d, .call ⟨.value f, args.toArray, ats⟩, t0, p, af, none⟩ :: r) σ K := by
  rw [vops_cons, vop_call, hf]
  exact call_v2 hs hq hvs hK
theorem s_call3 {d g : Nat} {f : Operand} {args : List Operand} {ats : Array TypeId} {first caps as vs : List V} {x y z : V} {rd : List Key} {fz : List Nat} (hs : Sp g as (R.v3 x y z)) (hf : σ.ev Γ f = .p (.fn g first caps)) (hq : pubWith (pub1 σ) (args.map (σ.ev Γ)) = some ⟨vs, rd, fz⟩) (hvs : first ++ vs ++ caps = as) (hK : vops P Γ Sp ops r (σ.apply (some d) (⟨.tup [.p x, .p y, .p z], rd, frzs fz⟩ : Eff)) K) : vops P Γ Sp ops (⟨some d, .call ⟨.value f, args.toArray, ats⟩, t0, p, af, none⟩ :: r) σ K := by
  rw [vops_cons, vop_call, hf]
  exact call_v3 hs hq hvs hK
theorem d_guard {d : Option Nat} {op : Op} {j : Nat} {want : Bool} : vopsD P Γ Sp ops (⟨d, op, t0, p, af, some (j, want)⟩ :: r) tr σ K = wantO (gdst ops j) fun g => vguard (σ.get g) want (vopsD P Γ Sp ops (⟨d, op, t0, p, af, none⟩ :: r) tr σ K) (vopsD P Γ Sp ops r (Eff.tr noEff :: tr) (σ.apply (d) noEff) K) := Eq.trans rfl rfl
theorem d_call {d g : Nat} {f : Operand} {args : List Operand} {ats : Array TypeId} {first caps as vs : List V} {x : V} {rd : List Key} {fz : List Nat} (hs : Sp g as (R.v x)) (hf : σ.ev Γ f = .p (.fn g first caps)) (hq : pubWith (pub1 σ) (args.map (σ.ev Γ)) = some ⟨vs, rd, fz⟩) (hvs : first ++ vs ++ caps = as) (hK : vopsD P Γ Sp ops r (Eff.tr (⟨.p x, rd, frzs fz⟩ : Eff) :: tr) (σ.apply (some d) (⟨.p x, rd, frzs fz⟩ : Eff)) K) : vopsD P Γ Sp ops (⟨some d, .call ⟨.value f, args.toArray, ats⟩, t0, p, af, none⟩ :: r) tr σ K := by
  rw [vopsD_cons, vop_call, hf]
  exact call_v hs hq hvs hK
theorem d_call2 {d g : Nat} {f : Operand} {args : List Operand} {ats : Array TypeId} {first caps as vs : List V} {x y : V} {rd : List Key} {fz : List Nat} (hs : Sp g as (R.v2 x y)) (hf : σ.ev Γ f = .p (.fn g first caps)) (hq : pubWith (pub1 σ) (args.map (σ.ev Γ)) = some ⟨vs, rd, fz⟩) (hvs : first ++ vs ++ caps = as) (hK : vopsD P Γ Sp ops r (Eff.tr (⟨.tup [.p x, .p y], rd, frzs fz⟩ : Eff) :: tr) (σ.apply (some d) (⟨.tup [.p x, .p y], rd, frzs fz⟩ : Eff)) K) : vopsD P Γ Sp ops (⟨some d, .call ⟨.value f, args.toArray, ats⟩, t0, p, af, none⟩ :: r) tr σ K := by
  rw [vopsD_cons, vop_call, hf]
  exact call_v2 hs hq hvs hK
theorem d_call3 {d g : Nat} {f : Operand} {args : List Operand} {ats : Array TypeId} {first caps as vs : List V} {x y z : V} {rd : List Key} {fz : List Nat} (hs : Sp g as (R.v3 x y z)) (hf : σ.ev Γ f = .p (.fn g first caps)) (hq : pubWith (pub1 σ) (args.map (σ.ev Γ)) = some ⟨vs, rd, fz⟩) (hvs : first ++ vs ++ caps = as) (hK : vopsD P Γ Sp ops r (Eff.tr (⟨.tup [.p x, .p y, .p z], rd, frzs fz⟩ : Eff) :: tr) (σ.apply (some d) (⟨.tup [.p x, .p y, .p z], rd, frzs fz⟩ : Eff)) K) : vopsD P Γ Sp ops (⟨some d, .call ⟨.value f, args.toArray, ats⟩, t0, p, af, none⟩ :: r) tr σ K := by
  rw [vopsD_cons, vop_call, hf]
  exact call_v3 hs hq hvs hK
end Go.Vm

namespace Go.Vm
variable {Γ : Nat → Option (List V)} {P : Program} {Sp : FuncId → List V → R → Prop} {Yp : Nat → Nat → List V → Prop} {σ : VS} {K : Eff → Prop}
theorem vconv_ii {s d : TypeId} {k k' k2 : IntKind} {n : Int} (h1 : P.underlying s = some (.int k)) (h2 : P.underlying d = some (.int k')) : vconv P s d (.p (.i k2 n)) K = K ⟨.p (.i k' (k'.wrap n)), [], []⟩ := by
  simp only [vconv, h1, h2]
theorem vpart_p {t : TypeId} {cs : List V} {off : Nat} : vpart P t (.p (.agg cs)) off K = wantO (szq P t) fun n => wantO (agq P t) fun ag => wantO (sub cs off n) fun cs => wantO (unAggV ag cs) fun v => K ⟨.p v, [], []⟩ := Eq.trans rfl rfl
theorem vpart_a {t : TypeId} {ls : List L} {off : Nat} : vpart P t (.agg ls) off K = wantO (szq P t) fun n => wantO (agq P t) fun ag => need (off + n ≤ ls.length ∧ ((ls.drop off).take n).all L.isCell = true) (wantO (unAgg ag ((ls.drop off).take n)) fun l => K ⟨l, [], []⟩) := Eq.trans rfl rfl
theorem vindex_agg {t : TypeId} {cs : List V} {k : IntKind} {n : Int} : vindex P t (.p (.agg cs)) (.p (.i k n)) K = wantO (arq P t) fun q => wantO (szq P q.2) fun es => need (0 ≤ n ∧ n < q.1) (vpart P q.2 (.p (.agg cs)) (n.toNat * es) K) := Eq.trans rfl rfl
theorem vindex_ags {t : TypeId} {cs : List L} {k : IntKind} {n : Int} : vindex P t (.agg cs) (.p (.i k n)) K = wantO (arq P t) fun q => wantO (szq P q.2) fun es => need (0 ≤ n ∧ n < q.1) (vpart P q.2 (.agg cs) (n.toNat * es) K) := Eq.trans rfl rfl
theorem vminmax_t {k : IntKind} {a : Int} {r : List L} : vminmax true (.p (.i k a) :: r) K = wantO (maxI k a r) fun v => K ⟨.p v, [], []⟩ := Eq.trans rfl rfl
theorem vminmax_f {k : IntKind} {a : Int} {r : List L} : vminmax false (.p (.i k a) :: r) K = wantO (minI k a r) fun v => K ⟨.p v, [], []⟩ := Eq.trans rfl rfl
theorem maxI_nil {k : IntKind} {a : Int} : maxI k a [] = some (.i k a) := Eq.trans rfl rfl
theorem minI_nil {k : IntKind} {a : Int} : minI k a [] = some (.i k a) := Eq.trans rfl rfl
theorem maxI_cons {k : IntKind} {a b : Int} {r : List L} : maxI k a (.p (.i k b) :: r) = maxI k (max a b) r := by
  have : (if b > a then b else a) = max a b := by simp only [Int.max_def, gt_iff_lt]; split <;> split <;> omega
  simp only [maxI, if_true, this]
theorem minI_cons {k : IntKind} {a b : Int} {r : List L} : minI k a (.p (.i k b) :: r) = minI k (min a b) r := by
  have : (if b < a then b else a) = min a b := by simp only [Int.min_def]; split <;> split <;> omega
  simp only [minI, if_true, this]
theorem unAggV_t {cs : List V} : unAggV true cs = some (.agg cs) := Eq.trans rfl rfl
theorem unAggV_f {c : V} : unAggV false [c] = some c := Eq.trans rfl rfl
theorem unAgg_t {cs : List L} : unAgg true cs = some (mkAgg cs) := Eq.trans rfl rfl
theorem unAgg_f {c : L} : unAgg false [c] = some c := Eq.trans rfl rfl
theorem vstore_ep1 {t : TypeId} {s g i : Nat} {x : L} : vstore P σ t (.ep s g i 0) x K = wantO (szq P t) fun n => wantO (curA σ s g) fun c => wantO (c.2[i]?) fun y => wantO (pub1 σ x) fun q =>
        need (q.v.cells.length = n ∧ 0 + n ≤ y.cells.length ∧ isNone (σ.mem (.f s)) = true ∧ s ∉ q.fz) (wantO (reCell y (y.cells.take 0 ++ q.v.cells ++ y.cells.drop (0 + n))) fun v =>
          K ⟨.dead, .a s :: .f s :: q.rd, (.a s, .arr g c.1.1 c.1.2 (c.2.set i v)) :: frzs q.fz⟩) := Eq.trans rfl rfl
theorem reCell_i {k : IntKind} {n : Int} {c : V} : reCell (.i k n) [c] = some c := rfl
theorem reCell_b {b : Bool} {c : V} : reCell (.b b) [c] = some c := rfl
theorem reCell_s {b : List V} {c : V} : reCell (.sl b) [c] = some c := rfl
theorem reCell_a {cs cs' : List V} : reCell (.agg cs) cs' = some (.agg cs') := rfl
theorem pub0up {v : V} : pub0 σ (.p v) = some ⟨v, [], []⟩ := Eq.trans rfl rfl
theorem pub0unilS : pub0 σ .nilS = some ⟨.sl [], [], []⟩ := Eq.trans rfl rfl
theorem pub0ue0 : pub0 σ .e0 = some ⟨.sl [], [], []⟩ := Eq.trans rfl rfl
theorem pub0uarr {t g : Nat} : pub0 σ (.arr t g) = (curA σ t g).map fun x => ⟨.sl x.2, [.a t], [t]⟩ := Eq.trans rfl rfl
theorem pub1uagg {ls : List L} : pub1 σ (.agg ls) = if ls.all L.isCell = true then (pubWith (pub0 σ) ls).map fun q => ⟨.agg q.vs, q.rd, q.fz⟩ else none := Eq.trans rfl rfl
theorem pubO_own {t : Nat} : pubO σ (.own t 0) = (boxN σ t).bind fun n => (cellsOf σ t 0 n).bind fun ls => if ls.all L.isCell = true then (pubWith (pub0 σ) ls).map fun q => ⟨.ref q.vs, .b t :: keysC t 0 n ++ q.rd, t :: q.fz⟩ else none := Eq.trans rfl rfl
theorem pubO_p {v : V} : pubO σ (.p v) = some ⟨v, [], []⟩ := Eq.trans rfl rfl
theorem pubO_nilS : pubO σ .nilS = some ⟨.sl [], [], []⟩ := Eq.trans rfl rfl
theorem pubO_e0 : pubO σ .e0 = some ⟨.sl [], [], []⟩ := Eq.trans rfl rfl
theorem pubO_arr {t g : Nat} : pubO σ (.arr t g) = (curA σ t g).map fun x => ⟨.sl x.2, [.a t], [t]⟩ := Eq.trans rfl rfl
theorem lfill_cons {pl : List (Nat × Nat)} {x ls : List L} {i : Nat} {r : List (Nat × List L)} : lfill pl x ((i, ls) :: r) = (pl[i]?).bind fun q => if ls.length = q.2 ∧ q.1 + q.2 ≤ x.length then lfill pl (x.take q.1 ++ ls ++ x.drop (q.1 + q.2)) r else none := by
  simp only [lfill]; cases pl[i]? <;> rfl
theorem winM_none : winM (fun _ => none) = false := Eq.trans rfl rfl
theorem vsl_f {t : TypeId} {x : L} {lo hi mx : Option L} : vsl false P σ t x lo hi mx K = vslice P σ t x lo hi mx K := Eq.trans rfl rfl
theorem conts_arrZ {t g : Nat} : conts σ (.arr t g) = (curA σ t g).map fun q => (q.2, [.a t]) := Eq.trans rfl rfl
theorem vslice_st {t : TypeId} {lo hi mx : Option L} {s : ByteArray} : vslice P σ t (.p (.s s)) lo hi mx K = need (isStr P t = true ∧ mx.isNone = true) (wantO (bnd 0 lo) fun a => wantO (bnd s.size hi) fun b => need (0 ≤ a ∧ a ≤ b ∧ b ≤ s.size) (K ⟨.p (.s (s.extract a.toNat b.toNat)), [], []⟩)) := Eq.trans rfl rfl
theorem vslice_sl {t : TypeId} {lo hi : Option L} {xs : List V} : vslice P σ t (.p (.sl xs)) lo hi none K = wantO (elq P t) fun e => wantO (szq P e) fun es => wantO (bnd 0 lo) fun a => wantO (bnd xs.length hi) fun b => need (0 ≤ a ∧ a ≤ b ∧ b ≤ xs.length ∧ ∀ y ∈ xs, y.cells.length = es) (K ⟨.p (.sl ((xs.take b.toNat).drop a.toNat)), [], []⟩) := Eq.trans rfl rfl
theorem vslice_arr {t : TypeId} {lo hi : Option L} {s g : Nat} : vslice P σ t (.arr s g) lo hi none K = wantO (elq P t) fun e => wantO (szq P e) fun es => wantO (curA σ s g) fun q => wantO (bnd 0 lo) fun a => wantO (bnd q.2.length hi) fun b => need (0 ≤ a ∧ a ≤ b ∧ b ≤ q.2.length ∧ ∀ y ∈ q.2, y.cells.length = es) (K ⟨.p (.sl ((q.2.take b.toNat).drop a.toNat)), [.a s], [(.f s, .frz)]⟩) := by
  simp only [vslice, pub0]
  cases curA σ s g <;> simp [wantO, frzs]
theorem vslice_nilS {t : TypeId} {lo hi : Option L} : vslice P σ t .nilS lo hi none K = vslice P σ t (.p (.sl [])) lo hi none K := Eq.trans rfl rfl
theorem vslice_e0 {t : TypeId} {lo hi : Option L} : vslice P σ t .e0 lo hi none K = vslice P σ t (.p (.sl [])) lo hi none K := Eq.trans rfl rfl
theorem eqvV_i {k : IntKind} {a b : Int} : eqvV (.i k a) (.i k b) = some (a == b) := by simp [eqvV]
theorem eqvs_cons {a b : V} {as bs : List V} : eqvs (a :: as) (b :: bs) = (eqvV a b).bind fun x => (eqvs as bs).map fun y => x && y := by
  simp only [eqvs]; cases eqvV a b <;> cases eqvs as bs <;> rfl
theorem oget_zero {α : Type} {x : α} {r : List α} : (x :: r)[0]? = some x := rfl
theorem oget_succ {α : Type} {x : α} {r : List α} {n : Nat} : (x :: r)[n + 1]? = r[n]? := rfl
theorem take_succ {α : Type} {x : α} {r : List α} {n : Nat} : (x :: r).take (n + 1) = x :: r.take n := rfl
theorem take_zero {α : Type} {r : List α} : r.take 0 = [] := by cases r <;> rfl
theorem tl_nil {α : Type} {n : Nat} : ([] : List α).drop n = [] := by cases n <;> rfl
theorem wkM_c {ms : List (Key × M)} {t j : Nat} {m : M} : wkM ms σ (.c t j) m = True := by cases m <;> rfl
theorem exArr {g g' es0 : Nat} {e0 : TypeId} {xs0 : List V} : (∃ e es xs, M.arr g' e0 es0 xs0 = M.arr g e es xs) ↔ g' = g := ⟨fun ⟨_, _, _, h⟩ => by cases h; rfl, fun h => ⟨_, _, _, by rw [h]⟩⟩
theorem atI_map {α : Type} {f : α → V} {xs : List α} {n : Int} {K : V → Prop} (z : α) (h0 : 0 ≤ n) (hy : n.toNat < xs.length) (k : K (f (xs.getD n.toNat z))) : atI (xs.map f) n K := atI_intro _ h0 (by simp [List.getD, hy]) k
theorem exArr2 {t t' g g' es0 : Nat} {e0 : TypeId} {xs0 : List V} : (∃ g0 e es xs, L.arr t g = L.arr t' g0 ∧ M.arr g' e0 es0 xs0 = M.arr g0 e es xs) = (t = t' ∧ g = g') := propext ⟨fun ⟨_, _, _, _, h, k⟩ => by cases h; cases k; exact ⟨rfl, rfl⟩, fun ⟨h, k⟩ => by subst h k; exact ⟨_, _, _, _, rfl, rfl⟩⟩
theorem cast0 : ((0 : Nat) : Int) = 0 := rfl
theorem wkM_f {ms : List (Key × M)} {t : Nat} {m : M} : wkM ms σ (.f t) m = True := by cases m <;> rfl
theorem c_skip1 {Q : Exit → VS → Prop} (h : Q .normal σ) : vcode P Γ Sp Yp .skip Q σ := h
theorem c_ret1 {Q : Exit → VS → Prop} (h : Q .ret σ) : vcode P Γ Sp Yp .ret Q σ := h
theorem c_block1 {Q : Exit → VS → Prop} {id : Nat} {c : Code} (h : vcode P Γ Sp Yp c (blockV id Q) σ) : vcode P Γ Sp Yp (.block id c) Q σ := h
theorem guard_by {x w : Bool} {A B : Prop} (h1 : x = true → vguard (.p (.b true)) w A B) (h2 : x = false → vguard (.p (.b false)) w A B) : vguard (.p (.b x)) w A B := by
  cases x
  · exact h2 rfl
  · exact h1 rfl
theorem need_by {c K : Prop} (h : c) (k : K) : need c K := ⟨h, k⟩
theorem need_by2 {c K : Prop} (k : K) (h : c) : need c K := ⟨h, k⟩
theorem nb {c K : Prop} (k : K) (h : c := by first | assumption | omega | (simp <;> omega)) : need c K := ⟨h, k⟩
theorem want_map {α : Type} {f : α → V} {xs : List α} {n : Nat} {K : V → Prop} (z : α) (h : n < xs.length) (k : K (f (xs.getD n z))) : wantO ((xs.map f)[n]?) K := by
  rw [show (xs.map f)[n]? = some (f (xs.getD n z)) by simp [List.getD, h]]; exact k
theorem call_va {d g : Nat} {first caps as vs : List V} {args : List L} {e : TypeId} {es : Nat} {xs : List V} {rd : List Key} {fz : List Nat} (hs : Sp g as (.one (.c (.arr e es xs)))) (hq : pubWith (pub1 σ) args = some ⟨vs, rd, fz⟩) (hvs : first ++ vs ++ caps = as) (hfr : fresh σ d = true) (hfz : fz.contains d = false) (hK : K ⟨.arr d 0, .b d :: .a d :: rd, (.a d, .arr 0 e es xs) :: (.f d, .none) :: frzs fz⟩) : vcallF Sp σ (some d) (.p (.fn g first caps)) args K := by
  refine .inl ?_
  simp only [vcallP, hq, wantO_some]
  subst hvs
  exact ⟨_, hs, by simp [R.toL, R1.toL, RC.toL, siteN, hfr, -List.contains_eq_mem, hfz], by simpa [R.toL, R1.toL, RC.toL, siteN] using hK⟩
variable {K : VS → Prop} {ops : Array Oper} {r : List Oper} {tr : List Tr} {t0 : TypeId} {p : String} {af : Array Edge}
theorem s_calla {d g : Nat} {f : Operand} {args : List Operand} {ats : Array TypeId} {first caps as vs : List V} {e : TypeId} {es : Nat} {xs : List V} {rd : List Key} {fz : List Nat} (hs : Sp g as (.one (.c (.arr e es xs)))) (hf : σ.ev Γ f = .p (.fn g first caps)) (hq : pubWith (pub1 σ) (args.map (σ.ev Γ)) = some ⟨vs, rd, fz⟩) (hvs : first ++ vs ++ caps = as) (hfr : fresh σ d = true) (hfz : fz.contains d = false) (hK : vops P Γ Sp ops r (σ.apply (some d) (⟨.arr d 0, .b d :: .a d :: rd, (.a d, .arr 0 e es xs) :: (.f d, .none) :: frzs fz⟩ : Eff)) K) : vops P Γ Sp ops (⟨some d, .call ⟨.value f, args.toArray, ats⟩, t0, p, af, none⟩ :: r) σ K := by
  rw [vops_cons, vop_call, hf]
  exact call_va hs hq hvs hfr hfz hK
theorem d_calla {d g : Nat} {f : Operand} {args : List Operand} {ats : Array TypeId} {first caps as vs : List V} {e : TypeId} {es : Nat} {xs : List V} {rd : List Key} {fz : List Nat} (hs : Sp g as (.one (.c (.arr e es xs)))) (hf : σ.ev Γ f = .p (.fn g first caps)) (hq : pubWith (pub1 σ) (args.map (σ.ev Γ)) = some ⟨vs, rd, fz⟩) (hvs : first ++ vs ++ caps = as) (hfr : fresh σ d = true) (hfz : fz.contains d = false) (hK : vopsD P Γ Sp ops r (Eff.tr (⟨.arr d 0, .b d :: .a d :: rd, (.a d, .arr 0 e es xs) :: (.f d, .none) :: frzs fz⟩ : Eff) :: tr) (σ.apply (some d) (⟨.arr d 0, .b d :: .a d :: rd, (.a d, .arr 0 e es xs) :: (.f d, .none) :: frzs fz⟩ : Eff)) K) : vopsD P Γ Sp ops (⟨some d, .call ⟨.value f, args.toArray, ats⟩, t0, p, af, none⟩ :: r) tr σ K := by
  rw [vopsD_cons, vop_call, hf]
  exact call_va hs hq hvs hfr hfz hK
def vm :=
  (And.intro (And.intro (And.intro (And.intro (And.intro (And.intro (And.intro (And.intro @s_indexAddr @d_indexAddr) (And.intro @argsG.eq_1 @argsG.eq_2)) (And.intro (And.intro @Nat.zero_add @thenV_n) (And.intro @thenV_e (And.intro @thenV_r @blockV_n)))) (And.intro (And.intro (And.intro @blockV_r @blockV_e) (And.intro @vops_nil (And.intro @vopsD_nil @s_move))) (And.intro (And.intro @d_move @s_assign) (And.intro @d_assign (And.intro @s_pick @d_pick))))) (And.intro (And.intro (And.intro (And.intro @s_alloc @d_alloc) (And.intro @s_box @d_box)) (And.intro (And.intro @s_build @d_build) (And.intro @s_buildSlice (And.intro @d_buildSlice @s_load)))) (And.intro (And.intro (And.intro @d_load @s_store) (And.intro @d_store (And.intro @s_bin @d_bin))) (And.intro (And.intro @s_un @d_un) (And.intro @s_conv (And.intro @d_conv @s_makeFunc)))))) (And.intro (And.intro (And.intro (And.intro (And.intro @d_makeFunc @s_makeSlice) (And.intro @d_makeSlice @s_slice)) (And.intro (And.intro @d_slice @s_fieldAddr) (And.intro @d_fieldAddr (And.intro @s_field @d_field)))) (And.intro (And.intro (And.intro @s_index @d_index) (And.intro @s_extract (And.intro @d_extract @s_len))) (And.intro (And.intro @d_len @s_max) (And.intro @d_max (And.intro @s_min @d_min))))) (And.intro (And.intro (And.intro (And.intro @s_append @d_append) (And.intro @s_guard (And.intro @d_guard @ev_tmp))) (And.intro (And.intro @ev_int @ev_bool) (And.intro @ev_str (And.intro @ev_nilS @ev_nilP)))) (And.intro (And.intro (And.intro @ev_nilF @ev_nilI) (And.intro @ev_func (And.intro @of_get @of_mem))) (And.intro (And.intro @lookG_cons @look_cons) (And.intro @of_apply (And.intro @of_apply0 @List.nil_append.{0}))))))) (And.intro (And.intro (And.intro (And.intro (And.intro (And.intro @List.cons_append.{0} @vbin.eq_1) (And.intro @vbin.eq_2 @vbin.eq_3)) (And.intro (And.intro @vbin.eq_4 @vbin.eq_5) (And.intro @vbin.eq_6 (And.intro @vbin.eq_7 @vbin.eq_8)))) (And.intro (And.intro (And.intro @vbin.eq_9 @vbin.eq_10) (And.intro @vbin.eq_11 (And.intro @vbin.eq_12 @vbin.eq_13))) (And.intro (And.intro @vbin.eq_14 @vbin.eq_15) (And.intro @vbin.eq_16 (And.intro @vbin.eq_17 @vbin.eq_18))))) (And.intro (And.intro (And.intro (And.intro @vbin.eq_19 @vbin.eq_20) (And.intro @vbin.eq_21 (And.intro @vbin.eq_22 @need_true))) (And.intro (And.intro @true_and @and_true) (And.intro @ne_eq.{0} (And.intro @not_true_eq_false @not_false_eq_true)))) (And.intro (And.intro (And.intro @wantO_some @Option.map_some.{0, 0}) (And.intro @Option.bind_some.{0, 0} (And.intro @List.append_nil.{0} @List.map_cons.{0, 0}))) (And.intro (And.intro @List.map_nil.{0, 0} @frzs.eq_1) (And.intro @vguard_tt (And.intro @vguard_ff @vguard_tf)))))) (And.intro (And.intro (And.intro (And.intro (And.intro @vguard_ft @vguard_un) (And.intro @vbool_true @vbool_false)) (And.intro (And.intro @gdst_list @gdstL_zero) (And.intro @gdstL_succ (And.intro @noEff.eq_1 @Eff.tr.eq_1)))) (And.intro (And.intro (And.intro @List.length_map.{0, 0} @vlen_sl) (And.intro @vlen_nilS (And.intro @vlen_arr @vlen_str))) (And.intro (And.intro @vindexAddr_sl @vindexAddr_arr) (And.intro @Option.isSome_some.{0} (And.intro @vload_ref1 @vload_refs))))) (And.intro (And.intro (And.intro (And.intro @vload_own @vload_ep) (And.intro @vstore_own (And.intro @vfieldAddr_own @vfieldAddr_ref))) (And.intro (And.intro @boxN_of @cellsOf_zero) (And.intro @cellsOf_of (And.intro @curA_of @newBox.eq_1)))) (And.intro (And.intro (And.intro @fresh.eq_1 @look_nil) (And.intro @isNone_none (And.intro @isNone_box @isNone_cell))) (And.intro (And.intro @isNone_frz @isNone_arr) (And.intro @cellsW.eq_1 (And.intro @cellsW.eq_2 @keysC.eq_1)))))))) (And.intro (And.intro (And.intro (And.intro (And.intro (And.intro (And.intro @keysC.eq_2 @vc_agg) (And.intro @vc_b @vc_i)) (And.intro (And.intro @vc_s @vc_sl) (And.intro @vc_fn (And.intro @vc_ref @lc_p)))) (And.intro (And.intro (And.intro @lc_agg @lc_nilS) (And.intro @lc_e0 (And.intro @lc_own @lc_arr))) (And.intro (And.intro @L.isCell.eq_1 @L.isCell.eq_2) (And.intro @L.isCell.eq_3 (And.intro @L.isCell.eq_4 @L.isCell.eq_5))))) (And.intro (And.intro (And.intro (And.intro @L.isCell.eq_6 @L.isCell.eq_7) (And.intro @List.all_cons.{0} @List.all_nil.{0})) (And.intro (And.intro @Bool.and_self @Bool.and_true) (And.intro @List.length_cons.{0} (And.intro @List.length_nil.{0} @List.drop_zero.{0})))) (And.intro (And.intro (And.intro @List.drop_succ_cons.{0} @mkAgg.eq_1) (And.intro @allP.eq_1 (And.intro @allP.eq_2 @allP.eq_3))) (And.intro (And.intro @Key.c.injEq @Key.b.injEq) (And.intro @Key.f.injEq (And.intro @Key.a.injEq @and_self)))))) (And.intro (And.intro (And.intro (And.intro (And.intro @and_false @false_and) (And.intro @List.cons_ne_nil.{0} @M.isFrz.eq_1)) (And.intro (And.intro @M.isFrz.eq_2 @vbuildSlice.eq_1) (And.intro @ex_box (And.intro @len_cons @len_nil)))) (And.intro (And.intro (And.intro @List.not_mem_nil.{0} @false_imp_iff) (And.intro @implies_true.{0} (And.intro @rng_0 @rng_1))) (And.intro (And.intro @rng_2 @rng_3) (And.intro @rng_4 (And.intro @rng_5 @rng_6))))) (And.intro (And.intro (And.intro (And.intro @rng_7 @rng_8) (And.intro @rng_9 (And.intro @rng_10 @rng_11))) (And.intro (And.intro @rng_12 @Nat.lt_add_one) (And.intro @vun.eq_1 (And.intro @vun.eq_2 @vextract.eq_1)))) (And.intro (And.intro (And.intro @vconv_ii @vfield.eq_1) (And.intro @vpart_p (And.intro @vpart_a @vindex.eq_1))) (And.intro (And.intro @vindex_agg @vindex_ags) (And.intro @vminmax_t (And.intro @vminmax_f @maxI_nil))))))) (And.intro (And.intro (And.intro (And.intro (And.intro (And.intro @maxI_cons @minI_nil) (And.intro @minI_cons @sub.eq_1)) (And.intro (And.intro @unAggV_t @unAggV_f) (And.intro @unAgg_t (And.intro @unAgg_f @vmakeFunc.eq_1)))) (And.intro (And.intro (And.intro @pubO_own @pubO_p) (And.intro @pubO_nilS (And.intro @pubO_e0 @pubO_arr))) (And.intro (And.intro @lfill.eq_1 @lfill_cons) (And.intro @pubWith_bind (And.intro @pubWith_nil' @pub1up))))) (And.intro (And.intro (And.intro (And.intro @pub1unilS @pub1ue0) (And.intro @pub1uarr (And.intro @pub1uagg @pub0up))) (And.intro (And.intro @pub0unilS @pub0ue0) (And.intro @pub0uarr (And.intro @rOf_one @rOf_two)))) (And.intro (And.intro (And.intro @rOf_three @vexit.eq_1) (And.intro @vexit.eq_2 (And.intro @vexitA_r @vexitA_n))) (And.intro (And.intro @vret.eq_1 @vresL.eq_1) (And.intro @vresL.eq_2 (And.intro @vresL.eq_3 (And.intro (And.intro @winM_none @vsl_f) @vslice_st))))))) (And.intro (And.intro (And.intro (And.intro (And.intro @vslice_sl @vslice_nilS) (And.intro @vslice_e0 @vslice_arr)) (And.intro (And.intro @bnd.eq_1 @bnd.eq_2) (And.intro @vmakeSlice.eq_1 (And.intro @vappend.eq_1 @conts.eq_1)))) (And.intro (And.intro (And.intro @conts.eq_2 @conts.eq_3) (And.intro @conts_arrZ (And.intro @eqvV_i @eqvV.eq_2))) (And.intro (And.intro @eqvs.eq_1 @eqvs_cons) (And.intro @vstore_ep1 (And.intro @reCell_i @reCell_b))))) (And.intro (And.intro (And.intro (And.intro @reCell_s @reCell_a) (And.intro @isNil.eq_1 (And.intro @isNil.eq_3 @isNilI.eq_1))) (And.intro (And.intro @isNilI.eq_2 @V.kd.eq_1) (And.intro @V.kd.eq_2 (And.intro @V.kd.eq_3 @oget_zero)))) (And.intro (And.intro (And.intro @oget_succ @take_succ) (And.intro @take_zero (And.intro @tl_nil @Int.toNat_natCast))) (And.intro (And.intro @List.length_replicate.{0} @Bool.not_true) (And.intro @Bool.not_false (And.intro (And.intro @vcase_true @vcase_false) (And.intro (And.intro @vbin.eq_23 @vbin.eq_24) (And.intro @vbin.eq_25 (And.intro @vbin.eq_26 (And.intro @vbin.eq_27 @vbin.eq_28)))))))))))))
def vmk :=
  (And.intro (And.intro (And.intro (And.intro @Wk.eq_1 (And.intro @wkGs.eq_1 @wkGs.eq_2)) (And.intro (And.intro @wkMs.eq_1 @wkMs.eq_2) (And.intro @wkL.eq_1 @wkL.eq_2))) (And.intro (And.intro @wkL.eq_3 (And.intro @wkL.eq_4 @wkL.eq_5)) (And.intro (And.intro @wkL.eq_6 @wkC.eq_1) (And.intro @wkC.eq_2 @wkM.eq_1)))) (And.intro (And.intro (And.intro @wkM.eq_2 (And.intro @wkM_c @wkM_f)) (And.intro (And.intro @L.p.injEq @V.i.injEq) (And.intro @V.b.injEq @V.sl.injEq))) (And.intro (And.intro @V.agg.injEq (And.intro @List.cons.injEq.{0} @exArr)) (And.intro (And.intro @exArr2 @or_false) (And.intro @false_or @cast0)))))
end Go.Vm

namespace Go.Vm
variable {Γ : Nat → Option (List V)} {P : Program} {Sp : FuncId → List V → R → Prop} {σ : VS} {K : VS → Prop} {ops : Array Oper} {r : List Oper} {tr : List Tr} {t0 : TypeId} {p : String} {af : Array Edge} {d : Option Tmp} {op : Op}
theorem d_one (h : ∀ X : Eff → Prop, (∀ e, vopsD P Γ Sp ops r (e.tr :: tr) (σ.apply d e) K → X e) → vop P Γ Sp σ d op X) : vopsD P Γ Sp ops (⟨d, op, t0, p, af, none⟩ :: r) tr σ K := h _ fun _ k => k
theorem d_oneg {j : Nat} {want : Bool} (h : ∀ X : Eff → Prop, (∀ e, vopsD P Γ Sp ops r (e.tr :: tr) (σ.apply d e) K → X e) → wantO (gdst ops j) fun g => vguard (σ.get g) want (vop P Γ Sp σ d op X) (X noEff)) : vopsD P Γ Sp ops (⟨d, op, t0, p, af, some (j, want)⟩ :: r) tr σ K := h _ fun _ k => k
def vw :=
  (And.intro (And.intro (And.intro (And.intro @vop_alloc @vop_append) (And.intro @vop_assign @vop_bin)) (And.intro (And.intro @vop_box @vop_build) (And.intro @vop_buildSlice @vop_call))) (And.intro (And.intro (And.intro (And.intro @vop_conv @vop_extract) (And.intro @vop_field @vop_fieldAddr)) (And.intro (And.intro @vop_index @vop_indexAddr) (And.intro @vop_len @vop_load))) (And.intro (And.intro (And.intro @vop_makeFunc @vop_makeSlice) (And.intro @vop_max @vop_min)) (And.intro (And.intro @vop_move @vop_pick) (And.intro (And.intro @vop_slice @vop_store) @vop_un)))))
theorem c_yreg {Yp : Nat → Nat → List V → Prop} {Q : Exit → VS → Prop} {id : Nat} {l : List Oper} {y : Code} (l1 : List Oper) (o : Oper) (l2 : List Oper) (hl : l = l1 ++ o :: l2) (h : ∀ K : VS → Prop, (∀ σ, vcode P Γ Sp Yp y Q σ → K σ) → vops P Γ Sp l.toArray l1 σ fun σ1 => vyl P Γ Yp o σ1 fun σ2 => vops P Γ Sp l.toArray l2 σ2 K) : vcode P Γ Sp Yp (.seq (.region id l.toArray false) y) Q σ :=
  .inr ⟨l1, o, l2, hl, vops_mono (fun _ h => vyg_none (vyl_guard h) h) (h _ fun _ h => .inl h)⟩
theorem c_yreg1 {Yp : Nat → Nat → List V → Prop} {Q : Exit → VS → Prop} {id : Nat} {l : List Oper} (l1 : List Oper) (o : Oper) (l2 : List Oper) (hl : l = l1 ++ o :: l2) (h : ∀ K : VS → Prop, (∀ σ, Q .normal σ → K σ) → vops P Γ Sp l.toArray l1 σ fun σ1 => vyl P Γ Yp o σ1 fun σ2 => vops P Γ Sp l.toArray l2 σ2 K) : vcode P Γ Sp Yp (.region id l.toArray false) Q σ :=
  .inr ⟨l1, o, l2, hl, vops_mono (fun _ h => vyg_none (vyl_guard h) h) (h _ fun _ h => h)⟩
theorem vyl_y {Yp : Nat → Nat → List V → Prop} {f : Operand} {args : List Operand} {ats : Array TypeId} {l i : Nat} {vs : List V} {rd : List Key} {fz : List Nat} (hf : σ.ev Γ f = .p (.yld l)) (hq : pubWith (pub1 σ) (args.map (σ.ev Γ)) = some ⟨vs, rd, fz⟩) (hi : σ.mem .y = .cnt i) (hy : Yp l i vs) (h1 : K (σ.apply d ⟨.p (.b true), [], (.y, .cnt (i + 1)) :: frzs fz⟩)) (h2 : K (σ.apply d ⟨.p (.b false), [], (.y, .stop) :: frzs fz⟩)) : vyl P Γ Yp ⟨d, .call ⟨.value f, args.toArray, ats⟩, t0, p, af, none⟩ σ K := by
  unfold vyl
  simp only [hf]
  exact wantO_iff.2 ⟨_, hq, i, hi, hy, h1, h2⟩
theorem vyl_f {Yp : Nat → Nat → List V → Prop} {f : Operand} {args : List Operand} {ats : Array TypeId} {u : Bool} {g l i : Nat} {first caps vs : List V} {rd : List Key} {fz : List Nat} {A : Nat → List V} {zs : List (List V)} (hs : SpecY P Γ u g A zs) (hf : σ.ev Γ f = .p (.fn g first caps)) (hq : pubWith (pub1 σ) (args.map (σ.ev Γ)) = some ⟨vs, rd, fz⟩) (hi : σ.mem .y = .cnt i) (hvs : first ++ vs ++ caps = A l) (hy : ∀ k z, zs[k]? = some z → Yp l (i + k) z) (h1 : K (σ.apply d ⟨yresL u true, [], (.y, .cnt (i + zs.length)) :: frzs fz⟩)) (h2 : K (σ.apply d ⟨yresL u false, [], (.y, .stop) :: frzs fz⟩)) : vyl P Γ Yp ⟨d, .call ⟨.value f, args.toArray, ats⟩, t0, p, af, none⟩ σ K := by
  unfold vyl
  simp only [hf]
  exact wantO_iff.2 ⟨_, hq, u, l, i, zs, hi, hvs ▸ hs l i, hy, h1, h2⟩
theorem yresL_t {b : Bool} : yresL true b = .tup [] := Eq.trans rfl rfl
theorem yresL_f {b : Bool} : yresL false b = .p (.b b) := Eq.trans rfl rfl
theorem yresS_t {b : Bool} : yresS true b = [] := Eq.trans rfl rfl
theorem yresS_f {b : Bool} : yresS false b = [.p (.b b)] := Eq.trans rfl rfl
def sitesOk (σ : VS) (fz : List Nat) (wr : List (Key × M)) : Bool := wr.all fun w => match w.1 with | .a t => fresh σ t && !(fz.contains t) | _ => true
def sitesRd (wr : List (Key × M)) : List Key := wr.flatMap fun w => match w.1 with | .a t => [.b t, .a t] | _ => []
theorem sitesRd_nil : sitesRd [] = [] := Eq.trans rfl rfl
theorem sitesRd_a {t : Nat} {m : M} {r : List (Key × M)} : sitesRd ((.a t, m) :: r) = .b t :: .a t :: sitesRd r := Eq.trans rfl rfl
theorem sitesRd_f {t : Nat} {m : M} {r : List (Key × M)} : sitesRd ((.f t, m) :: r) = sitesRd r := Eq.trans rfl rfl
theorem sitesOk_nil {fz : List Nat} : sitesOk σ fz [] = true := Eq.trans rfl rfl
theorem sitesOk_a {fz : List Nat} {t : Nat} {m : M} {r : List (Key × M)} : sitesOk σ fz ((.a t, m) :: r) = ((fresh σ t && !(fz.contains t)) && sitesOk σ fz r) := Eq.trans rfl rfl
theorem sitesOk_f {fz : List Nat} {t : Nat} {m : M} {r : List (Key × M)} : sitesOk σ fz ((.f t, m) :: r) = sitesOk σ fz r := by simp [sitesOk]
theorem call_vx {K : Eff → Prop} {d g : Nat} {first caps as vs : List V} {args : List L} {q : R} {l : L} {wr : List (Key × M)} {rd : List Key} {fz : List Nat} (hs : Sp g as q) (hq : pubWith (pub1 σ) args = some ⟨vs, rd, fz⟩) (hvs : first ++ vs ++ caps = as) (hL : q.toL d = (l, wr)) (hfr : sitesOk σ fz wr = true) (hK : K ⟨l, sitesRd wr ++ rd, wr ++ frzs fz⟩) : vcallF Sp σ (some d) (.p (.fn g first caps)) args K := by
  refine .inl ?_
  simp only [vcallP, hq, wantO_some]
  subst hvs
  exact ⟨_, hs, by rw [hL]; exact hfr, by rw [hL]; exact hK⟩
theorem s_callx {d g : Nat} {f : Operand} {args : List Operand} {ats : Array TypeId} {first caps as vs : List V} {q : R} {l : L} {wr : List (Key × M)} {rd : List Key} {fz : List Nat} (hs : Sp g as q) (hf : σ.ev Γ f = .p (.fn g first caps)) (hq : pubWith (pub1 σ) (args.map (σ.ev Γ)) = some ⟨vs, rd, fz⟩) (hvs : first ++ vs ++ caps = as) (hL : q.toL d = (l, wr)) (hfr : sitesOk σ fz wr = true) (hK : vops P Γ Sp ops r (σ.apply (some d) (⟨l, sitesRd wr ++ rd, wr ++ frzs fz⟩ : Eff)) K) : vops P Γ Sp ops (⟨some d, .call ⟨.value f, args.toArray, ats⟩, t0, p, af, none⟩ :: r) σ K := by
  rw [vops_cons, vop_call, hf]
  exact call_vx hs hq hvs hL hfr hK
theorem d_callx {d g : Nat} {f : Operand} {args : List Operand} {ats : Array TypeId} {first caps as vs : List V} {q : R} {l : L} {wr : List (Key × M)} {rd : List Key} {fz : List Nat} (hs : Sp g as q) (hf : σ.ev Γ f = .p (.fn g first caps)) (hq : pubWith (pub1 σ) (args.map (σ.ev Γ)) = some ⟨vs, rd, fz⟩) (hvs : first ++ vs ++ caps = as) (hL : q.toL d = (l, wr)) (hfr : sitesOk σ fz wr = true) (hK : vopsD P Γ Sp ops r (Eff.tr (⟨l, sitesRd wr ++ rd, wr ++ frzs fz⟩ : Eff) :: tr) (σ.apply (some d) (⟨l, sitesRd wr ++ rd, wr ++ frzs fz⟩ : Eff)) K) : vopsD P Γ Sp ops (⟨some d, .call ⟨.value f, args.toArray, ats⟩, t0, p, af, none⟩ :: r) tr σ K := by
  rw [vopsD_cons, vop_call, hf]
  exact call_vx hs hq hvs hL hfr hK
theorem puts_nil : VS.puts [] σ = σ := Eq.trans rfl rfl
theorem puts_cons {t : Nat} {v : V} {r : List (Nat × V)} : VS.puts ((t, v) :: r) σ = VS.puts r (σ.put t (.p v)) := Eq.trans rfl rfl
theorem of_put {gs : List (Nat × L)} {ms : List (Key × M)} {t : Nat} {l : L} : (VS.of gs ms).put t l = VS.of ((t, l) :: gs) ms := by
  refine VS.same (fun t' => ?_) fun k => rfl
  show (if t' = t then l else lookG t' gs) = lookG t' ((t, l) :: gs)
  simp only [lookG]
section
variable {α : Type} {gs : List (Nat × L)} {ms : α → List (Key × M)} {Pr : Nat → α → Prop} {i : Nat} {Q : Exit → VS → Prop}
theorem rangeV_n : rangeV gs ms Pr i Q .normal σ = ∃ y, Wk σ.back gs (ms y) ∧ Pr (i + 1) y := Eq.trans rfl rfl
theorem rangeV_r : rangeV gs ms Pr i Q .ret σ = Q .ret σ.back := Eq.trans rfl rfl
theorem rangeV_e {id : Nat} : rangeV gs ms Pr i Q (.exit id) σ = Q (.exit id) σ.back := Eq.trans rfl rfl
end
theorem vslots_nil : vslots [] = [] := Eq.trans rfl rfl
theorem vslots_v {t : Nat} {m : M} {r : List (Key × M)} : vslots ((.v t, m) :: r) = (t, vslot m) :: vslots r := Eq.trans rfl rfl
theorem vslots_c {t j : Nat} {m : M} {r : List (Key × M)} : vslots ((.c t j, m) :: r) = vslots r := Eq.trans rfl rfl
theorem vslots_b {t : Nat} {m : M} {r : List (Key × M)} : vslots ((.b t, m) :: r) = vslots r := Eq.trans rfl rfl
theorem vslots_f {t : Nat} {m : M} {r : List (Key × M)} : vslots ((.f t, m) :: r) = vslots r := Eq.trans rfl rfl
theorem vslots_a {t : Nat} {m : M} {r : List (Key × M)} : vslots ((.a t, m) :: r) = vslots r := Eq.trans rfl rfl
theorem vslots_y {m : M} {r : List (Key × M)} : vslots ((.y, m) :: r) = vslots r := Eq.trans rfl rfl
theorem dropv_nil : dropv [] = [] := Eq.trans rfl rfl
theorem dropv_v {t : Nat} {m : M} {r : List (Key × M)} : dropv ((.v t, m) :: r) = dropv r := Eq.trans rfl rfl
theorem dropv_c {t j : Nat} {m : M} {r : List (Key × M)} : dropv ((.c t j, m) :: r) = (.c t j, m) :: dropv r := Eq.trans rfl rfl
theorem dropv_b {t : Nat} {m : M} {r : List (Key × M)} : dropv ((.b t, m) :: r) = (.b t, m) :: dropv r := Eq.trans rfl rfl
theorem dropv_f {t : Nat} {m : M} {r : List (Key × M)} : dropv ((.f t, m) :: r) = (.f t, m) :: dropv r := Eq.trans rfl rfl
theorem dropv_a {t : Nat} {m : M} {r : List (Key × M)} : dropv ((.a t, m) :: r) = (.a t, m) :: dropv r := Eq.trans rfl rfl
theorem dropv_y {m : M} {r : List (Key × M)} : dropv ((.y, m) :: r) = (.y, m) :: dropv r := Eq.trans rfl rfl
theorem vslot_c {l : L} : vslot (.cell l) = l := Eq.trans rfl rfl
theorem vkeys_nil : vkeys [] = [] := Eq.trans rfl rfl
theorem vkeys_cons {t : Nat} {l : L} {r : List (Nat × L)} : vkeys ((t, l) :: r) = (.v t, .cell l) :: vkeys r := Eq.trans rfl rfl
theorem zip_nl {α β : Type} {l : List β} : ([] : List α).zip l = [] := Eq.trans rfl rfl
theorem zip_cc {α β : Type} {a : α} {b : β} {l : List α} {m : List β} : (a :: l).zip (b :: m) = (a, b) :: l.zip m := Eq.trans rfl rfl
theorem toArr_list {α : Type} {l : List α} : l.toArray.toList = l := Eq.trans rfl rfl
theorem wkM_v {ms : List (Key × M)} {t : Nat} {l : L} : wkM ms σ (.v t) (.cell l) = (match σ.mem (.v t) with | .cell l' => wkL (fun k => look k .none ms) σ.mem l l' | _ => False) := Eq.trans rfl rfl
theorem wkM_y {ms : List (Key × M)} {m : M} : wkM ms σ .y m = True := by cases m <;> rfl
theorem iexit_n {n : Nat} : iexit n .normal σ = (σ.mem .y = .cnt n ∨ σ.mem .y = .stop) := Eq.trans rfl rfl
theorem iexit_r {n : Nat} : iexit n .ret σ = (σ.mem .y = .cnt n ∨ σ.mem .y = .stop) := Eq.trans rfl rfl
theorem yexit_n {u : Bool} {rs : List ResultVar} {n : Nat} : yexit P u rs n .normal σ = vresL P σ rs fun ls => (ls = yresS u true ∧ σ.mem .y = .cnt n) ∨ (ls = yresS u false ∧ σ.mem .y = .stop) := Eq.trans rfl rfl
theorem app_nil {α : Type} {l : List α} : [] ++ l = l := Eq.trans rfl rfl
theorem app_cons {α : Type} {a : α} {l m : List α} : a :: l ++ m = a :: (l ++ m) := Eq.trans rfl rfl
theorem ysplit {α : Type} {l : List α} {o : α} (n : Nat) (h : l[n]? = some o) : l = l.take n ++ o :: l.drop (n + 1) := by
  induction l generalizing n with
  | nil => simp at h
  | cons x l ih =>
    cases n with
    | zero => simp at h; simp [h]
    | succ n => simp at h; simpa using ih n h
theorem c_ydraw {Yp : Nat → Nat → List V → Prop} {Q : Exit → VS → Prop} {id : Nat} {l : List Oper} {y : Code} (l1 : List Oper) (o : Oper) (l2 : List Oper) (hl : l = l1 ++ o :: l2) (hlast : tailOk l1 (o :: l2) = true) (h : ∀ K : VS → Prop, (∀ σ, vcode P Γ Sp Yp y Q σ → K σ) → vopsD P Γ Sp l1.toArray l1 [] σ fun σ1 => vyl P Γ Yp o σ1 fun σ2 => vops P Γ Sp l.toArray l2 σ2 K) : vcode P Γ Sp Yp (.seq (.region id l.toArray true) y) Q σ :=
  .inr ⟨l1, o, l2, hl, hlast, h _ fun _ h => .inl h⟩
theorem dl_succ {α : Type} {x : α} {r : List α} {n : Nat} : (x :: r).drop (n + 1) = r.drop n := rfl
theorem dl_zero {α : Type} {r : List α} : r.drop 0 = r := rfl
theorem tk_succ {α : Type} {x : α} {r : List α} {n : Nat} : (x :: r).take (n + 1) = x :: r.take n := rfl
theorem tk_zero {α : Type} {r : List α} : r.take 0 = [] := by cases r <;> rfl
theorem vfieldAddr_ep {KE : Eff → Prop} {t : TypeId} {s g i j f : Nat} : vfieldAddr P σ t (.ep s g i j) f KE = wantO (flq P t f) fun q => wantO (curA σ s g) fun _ => KE ⟨.ep s g i (j + q.2.1), [.a s], []⟩ := Eq.trans rfl rfl
theorem vstore_ep {KE : Eff → Prop} {t : TypeId} {s g i j : Nat} {x : L} : vstore P σ t (.ep s g i j) x KE = wantO (szq P t) fun n => wantO (curA σ s g) fun c => wantO (c.2[i]?) fun y => wantO (pub1 σ x) fun q => need (q.v.cells.length = n ∧ j + n ≤ y.cells.length ∧ isNone (σ.mem (.f s)) = true ∧ s ∉ q.fz) (wantO (reCell y (y.cells.take j ++ q.v.cells ++ y.cells.drop (j + n))) fun v => KE ⟨.dead, .a s :: .f s :: q.rd, (.a s, .arr g c.1.1 c.1.2 (c.2.set i v)) :: frzs q.fz⟩) := Eq.trans rfl rfl
theorem reCell_agg {cs l : List V} : reCell (.agg cs) l = some (.agg l) := Eq.trans rfl rfl
theorem reCell_sl {l : List V} {v : V} : reCell (.sl l) [v] = some v := Eq.trans rfl rfl
theorem vcells_agg {cs : List V} : (V.agg cs).cells = cs := Eq.trans rfl rfl
theorem vcells_i {k : IntKind} {n : Int} : (V.i k n).cells = [.i k n] := Eq.trans rfl rfl
theorem vcells_b {b : Bool} : (V.b b).cells = [.b b] := Eq.trans rfl rfl
theorem vcells_sl {l : List V} : (V.sl l).cells = [.sl l] := Eq.trans rfl rfl
theorem vconv_sb {KE : Eff → Prop} {s d e : TypeId} {x : ByteArray} (h1 : P.underlying s = some .string) (h2 : P.underlying d = some (.slice e)) (h3 : P.underlying e = some (.int .u8)) : vconv P s d (.p (.s x)) KE = KE ⟨.p (.sl (bytesV x)), [], []⟩ := by
  simp only [vconv, h1, h2, isU8, h3, need_true]
theorem notmem_nil {s : Nat} : (s ∉ ([] : List Nat)) = True := by simp
theorem vindexAddr_own {X : Eff → Prop} {t s j : Nat} {k : IntKind} {n : Int} : vindexAddr P σ t (.own s j) (.p (.i k n)) X = wantO (arq P t) fun q => wantO (szq P q.2) fun es => wantO (boxN σ s) fun m => need (0 ≤ n ∧ n < q.1 ∧ j + q.1 * es ≤ m) (X ⟨.own s (j + n.toNat * es), [.b s], []⟩) := Eq.trans rfl rfl
theorem vindexAddr_ref {X : Eff → Prop} {t : Nat} {cs : List V} {k : IntKind} {n : Int} : vindexAddr P σ t (.p (.ref cs)) (.p (.i k n)) X = wantO (arq P t) fun q => wantO (szq P q.2) fun es => need (0 ≤ n ∧ n < q.1 ∧ q.1 * es ≤ cs.length) (X ⟨.p (.ref (cs.drop (n.toNat * es))), [], []⟩) := Eq.trans rfl rfl
theorem toNat_0 : Int.toNat 0 = 0 := rfl
theorem toNat_1 : Int.toNat 1 = 1 := rfl
theorem toNat_2 : Int.toNat 2 = 2 := rfl
theorem toNat_3 : Int.toNat 3 = 3 := rfl
def vr := And.intro (And.intro (And.intro @vindexAddr_own @vindexAddr_ref) (And.intro (And.intro toNat_0 toNat_1) (And.intro toNat_2 toNat_3))) <| And.intro (And.intro (And.intro @yresL_t @yresL_f) (And.intro @yresS_t @yresS_f)) <| And.intro (And.intro (And.intro @vfieldAddr_ep @vstore_ep) (And.intro (And.intro @reCell_agg @reCell_sl) (And.intro (And.intro (And.intro @vcells_agg @vcells_i) (And.intro @vcells_b @vcells_sl)) (And.intro @notmem_nil @vconv_sb)))) <| And.intro (And.intro (And.intro (And.intro @vexitX_r @vexitX_n) (And.intro @sitesRd_nil @sitesRd_a)) (And.intro (And.intro @sitesRd_f @sitesOk_nil) (And.intro @sitesOk_a @sitesOk_f))) <| And.intro (And.intro (And.intro @dl_succ @dl_zero) (And.intro @tk_succ @tk_zero)) <| And.intro (And.intro (And.intro @puts_nil @puts_cons) (And.intro @of_put @rangeV_n)) (And.intro (And.intro (And.intro @rangeV_r @rangeV_e) (And.intro @of_back @vslots_nil)) (And.intro (And.intro (And.intro @vslots_v @vslots_c) (And.intro @vslots_b @vslots_f)) (And.intro (And.intro (And.intro @vslots_a @vslots_y) (And.intro @dropv_nil @dropv_v)) (And.intro (And.intro (And.intro @dropv_c @dropv_b) (And.intro @dropv_f @dropv_a)) (And.intro (And.intro (And.intro @dropv_y @vslot_c) (And.intro @vkeys_nil @vkeys_cons)) (And.intro (And.intro (And.intro @zip_nl @zip_cc) (And.intro @toArr_list @wkM_v)) (And.intro (And.intro (And.intro @wkM_y @iexit_n) (And.intro @iexit_r @yexit_n)) (And.intro (And.intro @yexit_r @app_nil) @app_cons))))))))
def vx := And.intro vm vr
end Go.Vm

namespace Go.Vm
variable {Γ : Nat → Option (List V)} {P : Program} {Sp : FuncId → List V → R → Prop} {σ : VS} {t0 : TypeId} {p : String} {af : Array Edge} {d : Option Tmp} {op : Op} {j : Nat} {want : Bool}
end Go.Vm

namespace Go.Vm
variable {Γ : Nat → Option (List V)} {X : Ctx} {N : Nat} {ds : List Deferred} {σ τ : VS} {a : Act} {w w' : World} {G G' : GG} {St St' : Nat → Nat → Prop} {own : Nat → Prop} {P : Program} {Sp : FuncId → List V → R → Prop} {ops : Array Oper}

theorem calls_ofG {f : FuncId} {fn : Func} {c : Code} {vs : List Value} {R : Ending → World → Prop} {C : Exit → VS → Prop} {Yp : Nat → Nat → List V → Prop} (hm : P.follows .mixedOrders = true) (hSp : ∀ f args r, Sp f args r → Spec P Γ f args r) (hY : Yields P X Yp) (hf : P.funcs[f]? = some fn) (hb : fn.body = some c)
    (hcd : codeDsts N c = true) (hR : RepD Γ X N dsM σ { tmps := vs.toArray ++ Array.replicate (fn.ntmps - vs.toArray.size) undef, defers := [] } w G X.St0 own) (hk : vcode P Γ Sp Yp c C σ)
    (hC : ∀ e σ', C e σ' → (e = .normal ∨ e = .ret) ∧ ∀ a' w' G St own, RepD Γ X N [] σ' a' w' G St own → ∃ v, (results fn a'.tmps).run P w' = .ok v w' ∧ R (.returned v) w') : Calls P f vs.toArray w R := by
  refine callsIn_wide (n := 0).1 ?_
  refine callsIn_of_wp_marks hf hb trivial ?_
  refine code_sound (ro := none) (n := 0) hSp hm c (fun _ => ⟨rfl, dsM_ne⟩) hY hcd ⟨_, _, _, hR⟩ hk ?_
  rintro e σ' a' w' hc ⟨G, St1, own, hR1⟩
  obtain ⟨he, hfin⟩ := hC e σ' hc
  have hR2 : RepD Γ X N [] σ' ⟨a'.tmps, []⟩ w' G St1 (ownM own a'.defers) := by
    refine hR1.ctx (fun _ _ => rfl) hR1.size (Marks.nil _ _ _) (fun _ => rfl) ?_ hR1.st0 (fun b o hb => (hR1.stn b o hb).imp id .inl) hR1.blt (fun b hb => ?_) (fun t b hb => .inl (hR1.ownb t b hb)) hR1.slots hR1.virts
    · show X.I _ (ownM (ownM own a'.defers) []) _ _
      rw [ownM_nil]; exact hR1.inv
    · rcases hb with hb | hb
      · exact hR1.ownlt b hb
      · exact ⟨(hR1.defs.lt hb).1, (hR1.defs.lt hb).2.1⟩
  have hL : LeavesInM Fence.wide 0 P fn a'.tmps R a'.defers .returning w' := by
    refine leaves_marks hR2 hR1.defs.1 (fun d hd => ?_) fun w2 h2 => hfin ⟨a'.tmps, []⟩ _ _ _ _ h2
    obtain ⟨r, e, p, q, s, t⟩ := hR1.defs.2 d hd
    refine ⟨r, e, p, .inr (by unfold mkD; rw [← e]; exact hd), fun t ht => s (hR1.ownb t r ht), fun o ho => ?_⟩
    rcases hR1.stn r o ho with ho | ho
    · exact t o ho
    · exact s ho
  rcases he with rfl | rfl
  · exact hL
  · exact hL

def argsL : Nat → List L → List (Nat × L)
  | _, [] => []
  | i, x :: xs => (i, x) :: argsL (i + 1) xs
theorem argsL_look : ∀ {xs : List L} {i t : Nat}, lookG t (argsL i xs) = if i ≤ t then (xs[t - i]?).getD .dead else .dead
  | [], i, t => by simp [argsL, lookG]
  | x :: xs, i, t => by
    simp only [argsL, lookG]
    by_cases h : t = i
    · subst h; simp
    · rw [if_neg h, argsL_look]
      by_cases h2 : i ≤ t
      · rw [if_pos h2, if_pos (by omega), show t - i = (t - (i + 1)) + 1 by omega]; simp
      · rw [if_neg h2, if_neg (by omega)]

def callO (St0 : Nat → Nat → Prop) (w0 : World) (u : Value) : Ctx where
  I := fun _ own _ w => Stp (fun b => u.ownBlock = some b) w0 w ∧ ∀ b, own b → w0.heap.size ≤ b ∨ u.ownBlock = some b
  St0 := St0
  B := 0
  kv := fun _ => undef
  step := by
    rintro _ own _ w _ w' ⟨h1, h2⟩ hs _ _
    refine ⟨⟨hs.os.trans h1.os, hs.tape.trans h1.tape, hs.output.trans h1.output, Nat.le_trans h1.size hs.size, fun k hk hn => ?_⟩, fun b hb => ?_⟩
    · rw [hs.block k (by have := h1.size; omega) fun ho => by
        rcases h2 k ho with h | h
        · omega
        · exact hn h]
      exact h1.block k hk hn
    · rcases hb with hb | hb
      · exact h2 b hb
      · have := h1.size; left; omega

theorem repT_Ls {mem : Key → M} {rd : Nat → Nat → Option Value} : ∀ {xs : List V} {vs : List Value}, repT St rd xs vs → repLs mem G St rd (xs.map .p) vs
  | [], vs, h => by simp only [repT] at h; subst h; simp [repLs]
  | x :: xs, vs, h => by
    simp only [repT] at h
    obtain ⟨v, r, rfl, p, q⟩ := h
    simp only [List.map_cons, repLs]
    exact ⟨v, r, rfl, by simp only [repLv]; exact p, repT_Ls q⟩

theorem noOwn_uniq {a a' : V} (ha : a.isO = true) (ha' : a'.isO = true) : ∀ {pre pre' post post' : List V}, noOwn pre = true → noOwn pre' = true → pre ++ a :: post = pre' ++ a' :: post' → pre = pre' ∧ a = a' ∧ post = post'
  | [], [], _, _, _, _, h => by simp at h; exact ⟨rfl, h⟩
  | [], y :: r, _, _, _, h2, h => by
    simp at h
    obtain ⟨rfl, _⟩ := h
    simp [noOwn, ha] at h2
  | x :: r, [], _, _, h1, _, h => by
    simp at h
    obtain ⟨rfl, _⟩ := h
    simp [noOwn, ha'] at h1
  | x :: r, y :: r', _, _, h1, h2, h => by
    simp only [List.cons_append, List.cons.injEq] at h
    obtain ⟨rfl, h⟩ := h
    simp only [noOwn, List.all_cons, Bool.and_eq_true] at h1 h2
    obtain ⟨p, q⟩ := noOwn_uniq ha ha' h1.2 h2.2 h
    exact ⟨by rw [p], q⟩
theorem specP_L {f : FuncId} {fn : Func} {c : Code} {rs : List ResultVar} {r : R} {St : Nat → Nat → Prop} {w : World} {ls : List L} {vs : List Value} (hm : P.follows .mixedOrders = true) (hSp : ∀ f args r, Sp f args r → Spec P Γ f args r) (hf : P.funcs[f]? = some fn) (hb : fn.body = some c) (hrs : fn.results = rs.toArray)
    (hN : fn.ntmps = N) (hle : ls.length ≤ N) (hcd : codeDsts N c = true) (hst : ∀ b o, St b o → b < w.heap.size) (hglob : ∀ g cs, Γ g = some cs → repA St (rdW w) cs g 0) (hLs : repLs (fun _ => .none) ⟨fun _ => 0, fun _ => undef⟩ St (rdW w) ls vs) (hk : vcode P Γ Sp noY c (vexitX P rs r) (VS.of (argsL 0 ls) [])) :
    Calls P f vs.toArray w fun e w' => ∃ v St' bl, e = .returned v ∧ RowKit.Below w.heap.size w w' ∧ (∀ b o, St b o → St' b o) ∧ (∀ b o, St' b o → St b o ∨ w.heap.size ≤ b) ∧ (∀ b o, St' b o → b < w'.heap.size) ∧ bl.Nodup ∧ repR St' w' w.heap.size r v bl := by
  obtain ⟨g1, g2⟩ := repLs_get.1 hLs
  have hblk : ∀ t, blkOf (fun _ => .none) (⟨fun _ => 0, fun _ => undef⟩ : GG) t = none := fun t => rfl
  have hR : RepD Γ (callX St w) N dsM (VS.of (argsL 0 ls) []) { tmps := vs.toArray ++ Array.replicate (fn.ntmps - vs.toArray.size) undef, defers := [] } w ⟨fun _ => 0, fun _ => undef⟩ St (fun _ => False) := by
    exact {
      size := by simp; omega
      defs := Marks.nil _ _ _
      dsq := fun h => (dsM_ne h).elim
      inv := by
        show (callX St w).I _ (ownM _ []) St w
        rw [ownM_nil]; exact ⟨RowKit.Below.refl _ _, fun _ h => h.elim⟩
      st0 := fun _ _ h => h
      stn := fun _ _ h => .inl h
      stlt := hst
      blt := Nat.le_refl _
      ownlt := fun _ h => h.elim
      glob := hglob
      slots := fun t => by
        show repLv _ _ _ _ (lookG t (argsL 0 ls)) _
        rw [argsL_look]
        simp only [Nat.zero_le, if_true, Nat.sub_zero]
        cases hx : ls[t]? with
        | none => simp only [Option.getD_none, repLv]
        | some x =>
          have ht : t < vs.length := by rw [← g1]; exact (List.getElem?_eq_some_iff.1 hx).1
          have hv : vs[t]? = some vs[t] := by simp [ht]
          have h1 := g2 t x _ hx hv
          have h2 : (vs.toArray ++ Array.replicate (fn.ntmps - vs.toArray.size) undef).getD t undef = vs[t] := by
            rw [Array.getD_eq_getD_getElem?, Array.getElem?_append_left (by simpa using ht)]
            simp [ht]
          simp only [Option.getD_some]
          rw [h2]; exact h1
      virts := fun t l h => by cases h
      boxes := fun t n h => by cases h
      arrs := fun t g e' es' xs' h => by cases h
      disj := fun t t' b h h' => by cases h
      both := fun t n g e' es' xs' h _ => by cases h
      ownb := fun t b h => by cases h
      sbox := fun t n h => by cases h
      sarr := fun t g e' es' xs' b h hv => by cases h }
  refine calls_ofG (X := callX St w) hm hSp yields_no hf hb hcd hR hk fun en σ' hc => ?_
  have fin : vretX P rs r σ' → ∀ a' w' G St1 own, RepD Γ (callX St w) N [] σ' a' w' G St1 own → ∃ v, (results fn a'.tmps).run P w' = .ok v w' ∧ ∃ v' St' bl, Ending.returned v = .returned v' ∧ RowKit.Below w.heap.size w w' ∧ (∀ b o, St b o → St' b o) ∧ (∀ b o, St' b o → St b o ∨ w.heap.size ≤ b) ∧ (∀ b o, St' b o → b < w'.heap.size) ∧ bl.Nodup ∧ repR St' w' w.heap.size r v' bl := by
    intro hv a' w' G St1 own hR1
    obtain ⟨ls, us, ⟨ts, hr, hnd⟩, h2, h3⟩ := vresL_run hR1 hv
    have hnd := nodupB_nodup hnd
    have fin2 : ∀ (v : Value) (bl : List Nat), (results fn a'.tmps).run P w' = .ok v w' → repR St1 w' w.heap.size r v bl → bl.Nodup → ∃ v, (results fn a'.tmps).run P w' = .ok v w' ∧ ∃ v' St' bl, Ending.returned v = .returned v' ∧ RowKit.Below w.heap.size w w' ∧ (∀ b o, St b o → St' b o) ∧ (∀ b o, St' b o → St b o ∨ w.heap.size ≤ b) ∧ (∀ b o, St' b o → b < w'.heap.size) ∧ bl.Nodup ∧ repR St' w' w.heap.size r v' bl := fun v bl hrun hrr hbn =>
      ⟨v, hrun, v, St1, bl, rfl, hR1.inv.1, hR1.st0, fun b o hb => (hR1.stn b o hb).imp id fun h => (hR1.ownlt b h).2, hR1.stlt, hbn, hrr⟩
    have hlen := repLs_length h3
    match ls, us, hr, h3, h2, hlen with
    | [l], us, hr, h3, h2, hlen =>
      simp only [resX] at hr
      cases h1 : r1E σ' l with
      | none => rw [h1] at hr; cases hr
      | some x =>
        obtain ⟨r1, t1⟩ := x
        rw [h1] at hr; cases hr
        simp only [repLs] at h3
        obtain ⟨v, vr, rfl, p, rfl⟩ := h3
        obtain ⟨bl, k1, k2⟩ := r1E_rep hR1 h1 hnd p
        exact fin2 v bl (by have := results_run hrs h2; simpa using this) k1 k2.1
    | [], us, hr, h3, h2, hlen =>
      simp only [resX, r1sE] at hr
      cases hr
      simp only [repLs] at h3
      subst h3
      exact fin2 _ [] (by have := results_run hrs h2; simpa using this) ⟨#[], rfl, by simp [repR1s]⟩ List.nodup_nil
    | l1 :: l2 :: ls, us, hr, h3, h2, hlen =>
      simp only [resX] at hr
      cases h1 : r1sE σ' (l1 :: l2 :: ls) with
      | none => rw [h1] at hr; cases hr
      | some x =>
        obtain ⟨r1, t1⟩ := x
        rw [h1] at hr; cases hr
        obtain ⟨bl, k1, k2⟩ := r1sE_rep hR1 h1 hnd h3
        have hne : ¬ us.length = 1 := by simp at hlen; omega
        refine fin2 (.tuple us.toArray) bl ?_ ⟨us.toArray, rfl, k1⟩ k2.1
        have := results_run hrs h2
        rw [dif_neg hne] at this; exact this
  cases en with
  | normal => exact ⟨.inl rfl, fin hc⟩
  | ret => exact ⟨.inr rfl, fin hc⟩
  | _ => exact hc.elim
theorem repT_nilV {rd : Nat → Nat → Option Value} : ∀ {pre post : List V} {vs : List Value}, repT St rd (pre ++ nilV :: post) vs → False
  | [], post, vs, h => by
    simp only [List.nil_append, repT, nilV, rep, repC, repA] at h
    obtain ⟨v, r, _, ⟨⟨b, o, _, ⟨⟨v', _, h2, _⟩, _⟩⟩, _⟩, _⟩ := h
    simp [V.isAgg] at h2
  | x :: pre, post, vs, h => by
    simp only [List.cons_append, repT] at h
    obtain ⟨v, r, _, _, q⟩ := h
    exact repT_nilV q
theorem spec_of_n {f : FuncId} {fn : Func} {c : Code} {rs : List ResultVar} {post : List V} {r : R} (hm : P.follows .mixedOrders = true) (hSp : ∀ f args r, Sp f args r → Spec P Γ f args r) (hf : P.funcs[f]? = some fn) (hn : fn.name ≠ "runtime.NumGoroutine") (hb : fn.body = some c) (hrs : fn.results = rs.toArray)
    (h2 : noOwn post = true) (hN : fn.ntmps = N) (hle : 1 + post.length ≤ N) (hcd : codeDsts N c = true) (hk : vcode P Γ Sp noY c (vexitX P rs r) (VS.of (argsL 0 (.nilS :: post.map .p)) [])) : Spec P Γ f (nilV :: post) r := by
  refine ⟨enters_of hf hn hb, fun St w vs _ _ hT => (repT_nilV (pre := []) hT).elim, fun pre' e' es' xs' post' ha k1 k2 => ?_, fun pre' post' ha k1 k2 => ?_⟩
  · obtain ⟨_, ho, _⟩ := noOwn_uniq (pre := []) (a := nilV) (by rfl) (by rfl) rfl k1 ha
    simp [oV, nilV] at ho
  · obtain ⟨rfl, _, rfl⟩ := noOwn_uniq (pre := []) (a := nilV) (by rfl) (by rfl) rfl k1 ha
    intro St w vs1 vs2 hst hglob hp1 hp2
    simp only [repT] at hp1
    subst hp1
    refine specP_L (ls := .nilS :: post.map .p) hm hSp hf hb hrs hN (by simp; omega) hcd hst hglob ?_ hk
    simp only [repLs, repLv, List.nil_append]
    exact ⟨_, _, rfl, rfl, repT_Ls hp2⟩
theorem spec_clone0 {f : FuncId} {fn : Func} {c : Code} {rs : List ResultVar} {e : TypeId} {es : Nat} (h0 : 0 < es) (hm : P.follows .mixedOrders = true) (hSp : ∀ f args r, Sp f args r → Spec P Γ f args r) (hf : P.funcs[f]? = some fn) (hn : fn.name ≠ "runtime.NumGoroutine") (hb : fn.body = some c) (hrs : fn.results = rs.toArray)
    (hN : fn.ntmps = N) (hle : 1 ≤ N) (hcd : codeDsts N c = true) (h1 : vcode P Γ Sp noY c (vexitX P rs (.one (.c .nilS))) (VS.of (argsL 0 [.em true]) [])) (h2 : vcode P Γ Sp noY c (vexitX P rs (.one (.c (.arr e es [])))) (VS.of (argsL 0 [.em false]) [])) : Spec P Γ f [.sl []] (.one (.c (.arr e es []))) := by
  refine spec_pure rfl (enters_of hf hn hb) fun St w vs hst hglob hT => ?_
  simp only [repT] at hT
  obtain ⟨v, r, rfl, hv, rfl⟩ := hT
  have hL : ∃ b, repLs (fun _ => .none) ⟨fun _ => 0, fun _ => undef⟩ St (rdW w) [.em b] [v] := by
    have hv' : repLv (fun _ => .none) ⟨fun _ => 0, fun _ => undef⟩ St (rdW w) (.p (.sl [])) v := by simp only [repLv]; exact hv
    rcases psl hv' with ⟨_, a, c, rfl⟩ | ⟨b, o, cap, sz, rfl, _, _⟩
    · exact ⟨a.isNone, by simp only [repLs, repLv]; exact ⟨_, _, rfl, ⟨a, c, rfl, rfl⟩, rfl⟩⟩
    · exact ⟨false, by simp only [repLs, repLv]; exact ⟨_, _, rfl, ⟨_, _, rfl, rfl⟩, rfl⟩⟩
  obtain ⟨b, hL⟩ := hL
  cases b with
  | true =>
    refine (specP_L hm hSp hf hb hrs hN (by simpa using hle) hcd hst hglob hL h1).mono ?_
    rintro en w' ⟨v, St', bl, he, m1, m2, m3, m4, m5, m6⟩
    refine ⟨v, St', bl, he, m1, m2, m3, m4, m5, ?_⟩
    simp only [repR, repR1, repRC] at m6 ⊢
    obtain ⟨rfl, rfl⟩ := m6
    exact ⟨h0, ⟨[], ownsRow_nil _ _ _, repEs_nil⟩, rfl, fun b hb => by cases hb⟩
  | false => exact specP_L hm hSp hf hb hrs hN (by simpa using hle) hcd hst hglob hL h2
end Go.Vm

namespace Go.Vm
variable {Γ : Nat → Option (List V)} {P : Program} {Sp : FuncId → List V → R → Prop} {σ : VS} {K : Eff → Prop}
variable {gs gs0 : List (Nat × L)} {ms ms0 : List (Key × M)} {d j n es g : Nat} {e t : TypeId} {rows : List Row} {xs : List V} {m : M}

def tabL (d : Nat) (e : TypeId) (es : Nat) (rows : List Row) (ms : List (Key × M)) : List (Key × M) := tabW d e es rows ++ ms
def rowAt (rows : List Row) (j : Nat) : Row := rows.getD j row0
theorem rowAt_some (h : j < rows.length) : rows[j]? = some (rowAt rows j) := by simp [rowAt, List.getD, h]
theorem rowAt_set {r : Row} {i : Nat} (h : j < rows.length) : rowAt (rows.set j r) i = if j = i then r else rowAt rows i := by
  unfold rowAt
  simp only [List.getD, List.getElem?_set]
  by_cases hi : j = i
  · subst hi; simp [h]
  · simp [hi]
theorem rowAt_rep {k : Nat} : rowAt (List.replicate k row0) j = row0 := by
  unfold rowAt
  by_cases h : j < k <;> simp [List.getD, List.getElem?_replicate, h]
theorem tab_in : tabW d e es rows ++ ms = tabL d e es rows ms := rfl

theorem rs_lit (h : n < 1000000) : (rs d j = n) = False := by unfold rs; exact eq_false (by omega)
theorem rs_lit' (h : n < 1000000) : (n = rs d j) = False := by unfold rs; exact eq_false (by omega)
theorem rs_eq {k : Nat} : (rs d j = rs d k) = (j = k) := propext rs_inj

theorem tabW_other {k : Key} (h1 : k ≠ .b d) (h2 : k ≠ .f d) (h3 : ∀ j, k ≠ .c d j) (h4 : ∀ j, k ≠ .a (rs d j)) (h5 : ∀ j, k ≠ .f (rs d j)) : look k m (tabW d e es rows) = m := by
  simp only [tabW, look, if_neg h1, if_neg h2]
  cases k with
  | c t j => rw [look_tabR_c, if_neg (fun h => h3 j (by rw [h.1]))]
  | b t => exact look_tabR_b
  | f t => exact look_tabR_fn fun k e => h5 k (by rw [e])
  | a t => exact look_tabR_an fun k e => h4 k (by rw [e])
  | y => exact look_tabR_y
  | v t => exact look_tabR_v
theorem look_tab_b : look (.b d) m (tabL d e es rows ms) = .box rows.length := by simp [tabL, tabW, look]
theorem look_tab_bo {t : Nat} (h : (t = d) = False) : look (.b t) m (tabL d e es rows ms) = look (.b t) m ms := by
  have h : t ≠ d := fun e => by simp [e] at h
  simp only [tabL, look_append]
  exact tabW_other (by simp [h]) (by simp) (by simp) (by simp) (by simp)
theorem look_tab_br : look (.b (rs d j)) m (tabL d e es rows ms) = look (.b (rs d j)) m ms := by
  refine look_tab_bo (eq_false ?_)
  unfold rs; omega
theorem look_tab_c (h : j < rows.length) : look (.c d j) m (tabL d e es rows ms) = .cell (.arr (rs d j) (rowAt rows j).g) := by
  simp only [tabL, look_append, tabW, look, reduceCtorEq, if_false, look_tabR_c, Nat.zero_le, and_self, if_true, Nat.sub_zero, rowAt_some h]
theorem look_tab_co {t : Nat} (h : (t = d) = False) : look (.c t j) m (tabL d e es rows ms) = look (.c t j) m ms := by
  have h : t ≠ d := fun e => by simp [e] at h
  simp only [tabL, look_append]
  exact tabW_other (by simp) (by simp) (by simp [h]) (by simp) (by simp)
theorem look_tab_a (h : j < rows.length) : look (.a (rs d j)) m (tabL d e es rows ms) = .arr (rowAt rows j).g e es (rowAt rows j).xs := by
  simp only [tabL, look_append, tabW, look, reduceCtorEq, if_false, look_tabR_a, Nat.zero_le, if_true, Nat.sub_zero, rowAt_some h]
theorem look_tab_ao {t : Nat} (h : t < 1000000) : look (.a t) m (tabL d e es rows ms) = look (.a t) m ms := by
  simp only [tabL, look_append]
  refine tabW_other (by simp) (by simp) (by simp) (fun j e => ?_) (by simp)
  simp only [Key.a.injEq] at e
  unfold rs at e; omega
theorem look_tab_f (h : j < rows.length) : look (.f (rs d j)) m (tabL d e es rows ms) = if (rowAt rows j).fz = true then .frz else .none := by
  have hne : rs d j ≠ d := by unfold rs; omega
  simp only [tabL, look_append, tabW, look, reduceCtorEq, if_false, Key.f.injEq, hne, look_tabR_f, Nat.zero_le, if_true, Nat.sub_zero, rowAt_some h]
theorem look_tab_fd : look (.f d) m (tabL d e es rows ms) = .none := by simp [tabL, tabW, look]
theorem look_tab_fo {t : Nat} (h : t < 1000000) (h' : (t = d) = False) : look (.f t) m (tabL d e es rows ms) = look (.f t) m ms := by
  have h' : t ≠ d := fun e => by simp [e] at h'
  simp only [tabL, look_append]
  refine tabW_other (by simp) (by simp [h']) (by simp) (by simp) (fun j e => ?_)
  simp only [Key.f.injEq] at e
  unfold rs at e; omega
theorem look_tab_y : look .y m (tabL d e es rows ms) = look .y m ms := by
  simp only [tabL, look_append]
  exact tabW_other (by simp) (by simp) (by simp) (by simp) (by simp)
theorem look_tab_v {t : Nat} : look (.v t) m (tabL d e es rows ms) = look (.v t) m ms := by
  simp only [tabL, look_append]
  exact tabW_other (by simp) (by simp) (by simp) (by simp) (by simp)
theorem isNone_fz {b : Bool} : isNone (if b = true then M.frz else M.none) = !b := by cases b <;> rfl

theorem of_tab_swap {k : Key} {x : M} (h : ∀ m, look k m (tabW d e es rows) = m) : VS.of gs ((k, x) :: tabL d e es rows ms) = VS.of gs (tabL d e es rows ((k, x) :: ms)) := by
  refine VS.same (fun _ => rfl) fun k' => ?_
  simp only [of_mem, tabL, look, look_append]
  by_cases hk : k' = k
  · subst hk; rw [if_pos rfl, h]; simp
  · rw [if_neg hk, if_neg hk]
theorem sw_a {t : Nat} {x : M} (h : t < 1000000) : VS.of gs ((.a t, x) :: tabL d e es rows ms) = VS.of gs (tabL d e es rows ((.a t, x) :: ms)) := of_tab_swap fun m => by
  refine tabW_other (by simp) (by simp) (by simp) (fun j e => ?_) (by simp)
  simp only [Key.a.injEq] at e
  unfold rs at e; omega
theorem sw_f {t : Nat} {x : M} (h : t < 1000000) (h' : (t = d) = False) : VS.of gs ((.f t, x) :: tabL d e es rows ms) = VS.of gs (tabL d e es rows ((.f t, x) :: ms)) := of_tab_swap fun m => by
  have h' : t ≠ d := fun e => by simp [e] at h'
  refine tabW_other (by simp) (by simp [h']) (by simp) (by simp) (fun j e => ?_)
  simp only [Key.f.injEq] at e
  unfold rs at e; omega
theorem sw_b {t : Nat} {x : M} (h' : (t = d) = False) : VS.of gs ((.b t, x) :: tabL d e es rows ms) = VS.of gs (tabL d e es rows ((.b t, x) :: ms)) := of_tab_swap fun m => by
  have h' : t ≠ d := fun e => by simp [e] at h'
  exact tabW_other (by simp [h']) (by simp) (by simp) (by simp) (by simp)
theorem sw_c {t : Nat} {x : M} (h' : (t = d) = False) : VS.of gs ((.c t j, x) :: tabL d e es rows ms) = VS.of gs (tabL d e es rows ((.c t j, x) :: ms)) := of_tab_swap fun m => by
  have h' : t ≠ d := fun e => by simp [e] at h'
  exact tabW_other (by simp) (by simp) (by simp [h']) (by simp) (by simp)
theorem sw_y {x : M} : VS.of gs ((.y, x) :: tabL d e es rows ms) = VS.of gs (tabL d e es rows ((.y, x) :: ms)) := of_tab_swap fun m => tabW_other (by simp) (by simp) (by simp) (by simp) (by simp)
theorem sw_v {t : Nat} {x : M} : VS.of gs ((.v t, x) :: tabL d e es rows ms) = VS.of gs (tabL d e es rows ((.v t, x) :: ms)) := of_tab_swap fun m => tabW_other (by simp) (by simp) (by simp) (by simp) (by simp)

theorem tab_set {r : Row} {wr : List (Key × M)} (h : j < rows.length) (h1 : ∀ m, look (.c d j) m wr = .cell (.arr (rs d j) r.g) ∨ (look (.c d j) m wr = m ∧ r.g = (rowAt rows j).g)) (h2 : ∀ m, look (.a (rs d j)) m wr = .arr r.g e es r.xs ∨ (look (.a (rs d j)) m wr = m ∧ r.g = (rowAt rows j).g ∧ r.xs = (rowAt rows j).xs))
    (h3 : ∀ m, look (.f (rs d j)) m wr = (if r.fz = true then .frz else .none) ∨ (look (.f (rs d j)) m wr = m ∧ r.fz = (rowAt rows j).fz)) (h4 : ∀ k m, k ≠ .c d j → k ≠ .a (rs d j) → k ≠ .f (rs d j) → look k m wr = m) : VS.of gs (wr ++ tabL d e es rows ms) = VS.of gs (tabL d e es (rows.set j r) ms) := by
  refine VS.same (fun _ => rfl) fun k => ?_
  simp only [of_mem, look_append]
  have hlen : (rows.set j r).length = rows.length := List.length_set
  have hj' : j < (rows.set j r).length := by rw [hlen]; exact h
  have hself : rowAt (rows.set j r) j = r := by rw [rowAt_set h, if_pos rfl]
  by_cases e1 : k = .c d j
  · subst e1
    rw [look_tab_c hj', hself]
    rcases h1 (look (.c d j) .none (tabL d e es rows ms)) with p | ⟨p, q⟩
    · exact p
    · rw [p, look_tab_c h, q]
  by_cases e2 : k = .a (rs d j)
  · subst e2
    rw [look_tab_a hj', hself]
    rcases h2 (look (.a (rs d j)) .none (tabL d e es rows ms)) with p | ⟨p, q, q'⟩
    · exact p
    · rw [p, look_tab_a h, q, q']
  by_cases e3 : k = .f (rs d j)
  · subst e3
    rw [look_tab_f hj', hself]
    rcases h3 (look (.f (rs d j)) .none (tabL d e es rows ms)) with p | ⟨p, q⟩
    · exact p
    · rw [p, look_tab_f h, q]
  rw [h4 k _ e1 e2 e3]
  simp only [tabL, look_append]
  generalize look k .none ms = m0
  cases k with
  | c t i =>
    simp only [tabW, look, reduceCtorEq, if_false, look_tabR_c, Nat.zero_le, and_true, Nat.sub_zero]
    by_cases ht : t = d
    · subst ht
      have : j ≠ i := fun e => e1 (by rw [e])
      simp only [if_true, List.getElem?_set_ne this]
    · simp [ht]
  | b t => simp only [tabW, look, reduceCtorEq, if_false, look_tabR_b, hlen]
  | f t =>
    simp only [tabW, look, reduceCtorEq, if_false]
    by_cases ht : ∃ i, t = rs d i
    · obtain ⟨i, rfl⟩ := ht
      have : j ≠ i := fun e => e3 (by rw [e])
      simp only [look_tabR_f, Nat.zero_le, if_true, Nat.sub_zero, List.getElem?_set_ne this]
    · have h1 : ∀ k, t ≠ rs d k := fun k e => ht ⟨k, e⟩
      rw [look_tabR_fn h1, look_tabR_fn h1]
  | a t =>
    simp only [tabW, look, reduceCtorEq, if_false]
    by_cases ht : ∃ i, t = rs d i
    · obtain ⟨i, rfl⟩ := ht
      have : j ≠ i := fun e => e2 (by rw [e])
      simp only [look_tabR_a, Nat.zero_le, if_true, Nat.sub_zero, List.getElem?_set_ne this]
    · have h1 : ∀ k, t ≠ rs d k := fun k e => ht ⟨k, e⟩
      rw [look_tabR_an h1, look_tabR_an h1]
  | y => simp only [tabW, look, reduceCtorEq, if_false, look_tabR_y]
  | v t => simp only [tabW, look, reduceCtorEq, if_false, look_tabR_v]
theorem tab_el (h : j < rows.length) : VS.of gs ((.a (rs d j), .arr (rowAt rows j).g e es xs) :: tabL d e es rows ms) = VS.of gs (tabL d e es (rows.set j ⟨(rowAt rows j).fz, (rowAt rows j).g, xs⟩) ms) :=
  tab_set (wr := [_]) h (fun m => .inr ⟨by simp [look], rfl⟩) (fun m => .inl (by simp [look])) (fun m => .inr ⟨by simp [look], rfl⟩) (fun k m h1 h2 h3 => by simp [look, h2])
theorem tab_mv (h : j < rows.length) : VS.of gs ((.c d j, .cell (.arr (rs d j) g)) :: (.a (rs d j), .arr g e es xs) :: (.f (rs d j), .none) :: tabL d e es rows ms) = VS.of gs (tabL d e es (rows.set j ⟨false, g, xs⟩) ms) :=
  tab_set (wr := [_, _, _]) h (fun m => .inl (by simp [look])) (fun m => .inl (by simp [look])) (fun m => .inl (by simp [look])) (fun k m h1 h2 h3 => by simp [look, h1, h2, h3])
theorem tab_gr (h : j < rows.length) : VS.of gs ((.c d j, .cell (.arr (rs d j) g)) :: (.a (rs d j), .arr g e es xs) :: tabL d e es rows ms) = VS.of gs (tabL d e es (rows.set j ⟨(rowAt rows j).fz, g, xs⟩) ms) :=
  tab_set (wr := [_, _]) h (fun m => .inl (by simp [look])) (fun m => .inl (by simp [look])) (fun m => .inr ⟨by simp [look], rfl⟩) (fun k m h1 h2 h3 => by simp [look, h1, h2])
theorem tab_fz (h : j < rows.length) : VS.of gs ((.f (rs d j), .frz) :: tabL d e es rows ms) = VS.of gs (tabL d e es (rows.set j ⟨true, (rowAt rows j).g, (rowAt rows j).xs⟩) ms) :=
  tab_set (wr := [_]) h (fun m => .inr ⟨by simp [look], rfl⟩) (fun m => .inr ⟨by simp [look], rfl, rfl⟩) (fun m => .inl (by simp [look])) (fun k m h1 h2 h3 => by simp [look, h3])

def needR (c : Prop) (K : Prop) : Prop := c ∧ K
@[congr] theorem needR_congr {c c' K : Prop} (h : c = c') : needR c K = needR c' K := by rw [h]
theorem vload_cel : vload P (VS.of gs (tabL d e es rows ms)) t (.cel d j) K = needR (j < rows.length) (wantO (szq P t) fun n => wantO (agq P t) fun ag => need (n = 1 ∧ ag = false) (K ⟨.arr (rs d j) (rowAt rows j).g, [.b d, .c d j], []⟩)) := by
  have hb : boxN (VS.of gs (tabL d e es rows ms)) d = some rows.length := by simp only [boxN, of_mem, look_tab_b]
  simp only [vload, hb, wantO_some]
  cases h1 : szq P t with
  | none => simp [wantO, needR]
  | some n =>
    cases h2 : agq P t with
    | none => simp [wantO, needR]
    | some ag =>
      simp only [wantO_some]
      by_cases hj : j < rows.length
      · have hc : cellOf (VS.of gs (tabL d e es rows ms)) d j = some (.arr (rs d j) (rowAt rows j).g) := by simp only [cellOf, of_mem, look_tab_c hj]
        simp only [hc, wantO_some, needR, need, hj, and_true, true_and]
      · simp [needR, need, hj]
theorem vstore_cel {x : L} : vstore P (VS.of gs (tabL d e es rows ms)) t (.cel d j) x K = needR (j < rows.length) (wantO (szq P t) fun n => need (n = 1) (vput (VS.of gs (tabL d e es rows ms)) d j x K)) := by
  have hb : boxN (VS.of gs (tabL d e es rows ms)) d = some rows.length := by simp only [boxN, of_mem, look_tab_b]
  simp only [vstore, hb, wantO_some, of_mem, look_tab_fd, isNone, and_true]
  cases h1 : szq P t with
  | none => simp [wantO, needR]
  | some n => by_cases hj : j < rows.length <;> simp [wantO_some, needR, need, hj]
theorem vstore_cel2 {x : L} {y : M} : vstore P (VS.of gs ((.a (rs d j), y) :: tabL d e es rows ms)) t (.cel d j) x K = needR (j < rows.length) (wantO (szq P t) fun n => need (n = 1) (vput (VS.of gs ((.a (rs d j), y) :: tabL d e es rows ms)) d j x K)) := by
  have hb : boxN (VS.of gs ((.a (rs d j), y) :: tabL d e es rows ms)) d = some rows.length := by simp only [boxN, of_mem, look, reduceCtorEq, if_false, look_tab_b]
  simp only [vstore, hb, wantO_some, of_mem, look, reduceCtorEq, if_false, look_tab_fd, isNone, and_true]
  cases h1 : szq P t with
  | none => simp [wantO, needR]
  | some n => by_cases hj : j < rows.length <;> simp [wantO_some, needR, need, hj]
theorem vput_same {s : Nat} : vput σ s j (.arr (rs s j) g) K = K ⟨.dead, [.b s, .f s], [(.c s j, .cell (.arr (rs s j) g))]⟩ := by
  simp only [vput, vcase_true]
theorem vput_move {s t : Nat} (h : t < 1000000) : vput σ s j (.arr t g) K = wantO (curA σ t g) fun q => need (isNone (σ.mem (.f t)) = true ∧ isNone (σ.mem (.b (rs s j))) = true)
        (K ⟨.dead, [.b s, .f s, .a t, .f t, .b (rs s j), .a (rs s j)], [(.c s j, .cell (.arr (rs s j) (genOf (σ.mem (.a (rs s j)))))), (.a (rs s j), .arr (genOf (σ.mem (.a (rs s j)))) q.1.1 q.1.2 q.2), (.f (rs s j), .none), (.a t, .arr (g + 1) q.1.1 q.1.2 [])]⟩) := by
  simp only [vput, rs_lit' h, vcase_false]
theorem genOf_arr : genOf (.arr g e es xs) = g + 1 := rfl
theorem genOf_none : genOf .none = 0 := rfl
theorem vindexAddr_bsl {s : Nat} {k : IntKind} {n : Int} : vindexAddr P σ t (.bsl s) (.p (.i k n)) K = wantO (elq P t) fun e => wantO (szq P e) fun es => wantO (boxN σ s) fun m => need (es = 1 ∧ 0 ≤ n ∧ n < m) (K ⟨.cel s n.toNat, [.b s], []⟩) := Eq.trans rfl rfl
theorem vlen_bsl {s : Nat} (h1 : arq P t = none) (h2 : (elq P t).isSome = true) : vlen σ P t (.bsl s) K = wantO (boxN σ s) fun n => K ⟨.p (.n n), [.b s], []⟩ := by
  simp only [vlen, h1, h2, lens]
  cases boxN σ s <;> simp [need, wantO]
theorem boxN_tab : boxN (VS.of gs (tabL d e es rows ms)) d = some rows.length := by simp only [boxN, of_mem, look_tab_b]

def rowV (r : Row) : V := .sl r.xs
def tabP (σ : VS) (d : Nat) : Pubs := ((boxN σ d).bind fun n => (cellsOf σ d 0 n).bind fun ls => pubWith (pubA σ) ls).getD ⟨[], [], []⟩
theorem cellsOf_tab : ∀ {n j : Nat}, j + n ≤ rows.length → cellsOf (VS.of gs (tabL d e es rows ms)) d j n = some (((rows.drop j).take n).zipIdx j |>.map fun x => .arr (rs d x.2) x.1.g)
  | 0, j, _ => by simp [cellsOf]
  | n + 1, j, h => by
    have hj : j < rows.length := by omega
    have hc : cellOf (VS.of gs (tabL d e es rows ms)) d j = some (.arr (rs d j) (rowAt rows j).g) := by simp only [cellOf, of_mem, look_tab_c hj]
    simp only [cellsOf, hc]
    rw [cellsOf_tab (n := n) (j := j + 1) (by omega)]
    have e1 : rows.drop j = rowAt rows j :: rows.drop (j + 1) := by
      rw [List.drop_eq_getElem_cons hj]; congr 1; simp [rowAt, List.getD, hj]
    rw [e1]; simp
theorem pub_tab : ∀ {l : List Row} {j : Nat}, (∀ i r, l[i]? = some r → rows[j + i]? = some r) → ∃ q, pubWith (pubA (VS.of gs (tabL d e es rows ms))) (l.zipIdx j |>.map fun x => .arr (rs d x.2) x.1.g) = some q ∧ q.vs = l.map rowV
  | [], j, _ => ⟨_, rfl, rfl⟩
  | r :: l, j, h => by
    have h0 := h 0 r rfl
    simp only [Nat.add_zero] at h0
    have hj : j < rows.length := (List.getElem?_eq_some_iff.1 h0).1
    have hr : rowAt rows j = r := by have := rowAt_some hj; rw [h0] at this; exact (Option.some.inj this).symm
    obtain ⟨q, hq, hv⟩ := pub_tab (l := l) (j := j + 1) fun i r' hi => by
      have := h (i + 1) r' (by simpa using hi)
      rwa [Nat.add_comm i 1, ← Nat.add_assoc] at this
    have hc : curA (VS.of gs (tabL d e es rows ms)) (rs d j) r.g = some ((e, es), r.xs) := by
      simp only [curA, of_mem, look_tab_a hj, hr, if_true]
    refine ⟨⟨.sl r.xs :: q.vs, [.a (rs d j)] ++ q.rd, [rs d j] ++ q.fz⟩, ?_, by simp [hv, rowV]⟩
    simp only [List.zipIdx_cons, List.map_cons, pubWith, pubA, hc, Option.map_some, hq]
theorem pubB_tab : pubB (VS.of gs (tabL d e es rows ms)) d = some ⟨.sl (rows.map rowV), .b d :: keysC d 0 rows.length ++ (tabP (VS.of gs (tabL d e es rows ms)) d).rd, d :: (tabP (VS.of gs (tabL d e es rows ms)) d).fz⟩ := by
  obtain ⟨q, hq, hv⟩ := pub_tab (gs := gs) (ms := ms) (d := d) (e := e) (es := es) (rows := rows) (l := rows) (j := 0) (fun i r h => by simpa using h)
  have hc := cellsOf_tab (gs := gs) (ms := ms) (d := d) (e := e) (es := es) (rows := rows) (n := rows.length) (j := 0) (by omega)
  simp only [List.drop_zero, List.take_length] at hc
  have hall : ((rows.zipIdx 0).map fun x => L.arr (rs d x.2) x.1.g).all L.isCell = true := by simp [L.isCell]
  simp only [pubB, boxN_tab, Option.bind_some, hc, hall, if_true, hq, Option.map_some, tabP, Option.getD_some, hv]
theorem pub0ubsl {s : Nat} : pub0 σ (.bsl s) = pubB σ s := Eq.trans rfl rfl
theorem pub1ubsl {s : Nat} : pub1 σ (.bsl s) = pubB σ s := Eq.trans rfl rfl
theorem isCell_bsl {s : Nat} : (L.bsl s).isCell = true := rfl

theorem noV_app : ∀ {a b : List (Key × M)}, noV (a ++ b) = (noV a && noV b)
  | [], _ => by simp [noV]
  | (k, _) :: r, b => by cases k <;> simp [noV, noV_app]
theorem noV_tabR : ∀ {l : List Row} {j : Nat}, noV (tabR d e es j l) = true
  | [], _ => rfl
  | r :: l, j => by simp [tabR, noV, noV_tabR]
theorem noV_tab : noV (tabL d e es rows ms) = noV ms := by
  simp only [tabL, noV_app, tabW, noV, noV_tabR, Bool.true_and]
theorem wkMs_app {ms1 : List (Key × M)} : ∀ {a b : List (Key × M)}, wkMs ms1 σ (a ++ b) = (wkMs ms1 σ a ∧ wkMs ms1 σ b)
  | [], b => by simp [wkMs]
  | (k, m) :: r, b => by simp only [List.cons_append, wkMs, wkMs_app, and_assoc]
theorem wkMs_tab (h : isNone (look (.a d) .none ms) = true) (hd : d < 1000000) : wkMs (tabL d e es rows ms) (VS.of gs0 (tabL d e es rows ms0)) (tabL d e es rows ms) = wkMs (tabL d e es rows ms) (VS.of gs0 (tabL d e es rows ms0)) ms := by
  have main : wkMs (tabL d e es rows ms) (VS.of gs0 (tabL d e es rows ms0)) (tabW d e es rows) := by
    have hcell : ∀ j, j < rows.length → wkL (fun k => look k .none (tabL d e es rows ms)) (VS.of gs0 (tabL d e es rows ms0)).mem (.arr (rs d j) (rowAt rows j).g) (.arr (rs d j) (rowAt rows j).g) := fun j hj => by
      simp only [wkL, of_mem, look_tab_a hj]
      exact ⟨⟨_, _, _, rfl⟩, .inl ⟨_, _, _, _, rfl, rfl⟩⟩
    have hC : ∀ n j, j + n ≤ rows.length → wkC (tabL d e es rows ms) (VS.of gs0 (tabL d e es rows ms0)) d j n := by
      intro n
      induction n with
      | zero => intro j _; simp only [wkC]
      | succ n ih =>
        intro j hj
        simp only [wkC]
        refine ⟨?_, ih (j + 1) (by omega)⟩
        rw [look_tab_c (by omega), of_mem, look_tab_c (by omega)]
        exact hcell j (by omega)
    have hR : ∀ (l : List Row) (j : Nat), (∀ i r, l[i]? = some r → rows[j + i]? = some r) → wkMs (tabL d e es rows ms) (VS.of gs0 (tabL d e es rows ms0)) (tabR d e es j l) := by
      intro l
      induction l with
      | nil => intro j _; simp only [tabR, wkMs]
      | cons r l ih =>
        intro j hl
        have h0 := hl 0 r rfl
        simp only [Nat.add_zero] at h0
        have hj : j < rows.length := (List.getElem?_eq_some_iff.1 h0).1
        have hr : rowAt rows j = r := by have := rowAt_some hj; rw [h0] at this; exact (Option.some.inj this).symm
        simp only [tabR, wkMs]
        refine ⟨trivial, ?_, trivial, ih (j + 1) fun i r' hi => ?_⟩
        · simp only [wkM, of_mem, look_tab_a hj, hr]
          refine ⟨trivial, trivial, trivial, fun hf => ?_⟩
          rw [look_tab_f hj] at hf ⊢; exact hf
        · have := hl (i + 1) r' (by simpa using hi)
          rwa [Nat.add_comm i 1, ← Nat.add_assoc] at this
    simp only [tabW, wkMs, wkM, of_mem, look_tab_b, look_tab_ao hd, h, look_tab_fd, isNone, true_and, and_true, implies_true]
    exact ⟨⟨h, hC rows.length 0 (by omega)⟩, hR rows 0 fun i r h => by simpa using h⟩
  conv => lhs; arg 3; unfold tabL
  rw [wkMs_app]
  exact propext ⟨fun h => h.2, fun h => ⟨main, h⟩⟩
theorem box_ex {a b : Nat} : (∃ n, M.box a = .box n ∧ M.box b = .box n) = (a = b) := by
  apply propext
  constructor
  · rintro ⟨n, h1, h2⟩; cases h1; cases h2; rfl
  · rintro rfl; exact ⟨_, rfl, rfl⟩
theorem wkL_bsl {mm m0 : Key → M} {s : Nat} {l : L} : wkL mm m0 (.bsl s) l = (l = .bsl s ∧ ∃ n, mm (.b s) = .box n ∧ m0 (.b s) = .box n) := by simp only [wkL]
theorem vmakeTab_of {k k' : IntKind} {a b : Int} : vmakeTab P σ d e (.p (.i k a)) (.p (.i k' b)) K = wantO (elq P e) fun e2 => wantO (szq P e2) fun es2 => wantO (szq P e) fun es => wantO (byq P e) fun by' =>
    need (k = .i64 ∧ k' = .i64 ∧ a = b ∧ 0 ≤ a ∧ a.toNat * (by' + 1) ≤ maxBytes ∧ fresh σ d = true ∧ es = 1 ∧ 0 < es2 ∧ d < 1024 ∧ freshR σ d 0 a.toNat = true) (K ⟨.bsl d, .b d :: .a d :: tabK d 0 a.toNat, tabW d e2 es2 (List.replicate a.toNat row0)⟩) := Eq.trans rfl rfl
theorem isRow_1 : isRow [.nilS] = true := rfl
def vt := And.intro @tab_in <| And.intro @rs_lit <| And.intro @rs_lit' <| And.intro @rs_eq <| And.intro @look_tab_b <| And.intro @look_tab_bo <| And.intro @look_tab_br <| And.intro @look_tab_c <| And.intro @look_tab_co <| And.intro @look_tab_a <| And.intro @look_tab_ao <| And.intro @look_tab_f <| And.intro @look_tab_fd <| And.intro @look_tab_fo <| And.intro @look_tab_y <| And.intro @look_tab_v <| And.intro @isNone_fz <|
  And.intro @sw_a <| And.intro @sw_f <| And.intro @sw_b <| And.intro @sw_c <| And.intro @sw_y <| And.intro @sw_v <| And.intro @tab_el <| And.intro @tab_mv <| And.intro @tab_gr <| And.intro @tab_fz <| And.intro @vload_cel <| And.intro @vstore_cel <| And.intro @vstore_cel2 <| And.intro @vput_same <| And.intro @vput_move <| And.intro @genOf_arr <| And.intro @genOf_none <| And.intro @vindexAddr_bsl <| And.intro @vlen_bsl <| And.intro @boxN_tab <|
  And.intro @pubB_tab <| And.intro @pub0ubsl <| And.intro @pub1ubsl <| And.intro @isCell_bsl <| And.intro @noV_tab <| And.intro @wkMs_tab <| And.intro @box_ex <| And.intro @wkL_bsl <| And.intro @vmakeTab_of <| And.intro @isRow_1 <| And.intro @rowAt_rep <| And.intro (@List.length_set.{0}) trivial
end Go.Vm

namespace Go.Vm
variable {gs : List (Nat × L)} {ms : List (Key × M)} {d j es : Nat} {e : TypeId} {rows : List Row} {m : M}
end Go.Vm

namespace Go.Vm
variable {Γ : Nat → Option (List V)} {P : Program} {Sp : FuncId → List V → R → Prop} {σ : VS}
variable {K : VS → Prop} {ops : Array Oper} {r : List Oper} {tr : List Tr} {t0 : TypeId} {p : String} {af : Array Edge}
end Go.Vm

namespace Go.Vm
variable {gs : List (Nat × L)} {ms : List (Key × M)} {d j es g : Nat} {e : TypeId} {rows : List Row} {m : M} {xs : List V}
end Go.Vm
