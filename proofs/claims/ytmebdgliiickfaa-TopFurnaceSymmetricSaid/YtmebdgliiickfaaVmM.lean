import Derived.Test.YtmebdgliiickfaaVmL
import Derived.Laws.Slices
set_option linter.all false
/- Each operation does in the model what the value machine says: boxes, literals, new arrays. -/
namespace Go.Vm
variable {Γ : Nat → Option (List V)} {X : Ctx} {N : Nat} {ds : List Deferred} {σ : VS} {a : Act} {w w' : World} {G G' : GG} {St St' : Nat → Nat → Prop} {own : Nat → Prop} {P : Program} {K : Eff → Prop}

/-- What an operation yields that may make or write memory. -/
def Makes (P : Program) (Γ : Nat → Option (List V)) (X : Ctx) (N : Nat) (ds : List Deferred) (σ : VS) (a : Act) (w : World) (s : Sem Value) (K : Eff → Prop) : Prop :=
  ∃ e u w1, K e ∧ s.run P w = .ok u w1 ∧ ∃ G' St' own', RepD Γ X N ds (σ.upd e.wr) a w1 G' St' own' ∧ repLv (σ.upd e.wr).mem G' St' (rdW w1) e.val u

theorem Gives.makes (h : RepD Γ X N ds σ a w G St own) {s : Sem Value} (hg : Gives P σ G St w s K) : Makes P Γ X N ds σ a w s K := by
  obtain ⟨e, u, hK, hw, hr, hv⟩ := hg
  refine ⟨e, u, w, hK, hr, G, St, own, ?_, ?_⟩
  · rw [hw]; exact h
  · rw [hw]; exact hv

theorem zeq_some {t : TypeId} {ls : List L} (h : zeq P t = some ls) : ∃ i z, P.info? t = some i ∧ i.zero = some z ∧ z.cells.toList.mapM scal = some ls := by
  unfold zeq at h
  obtain ⟨z, h1, h2⟩ := Option.bind_eq_some_iff.1 h
  obtain ⟨i, h3, h4⟩ := Option.bind_eq_some_iff.1 h1
  exact ⟨i, z, h3, h4, h2⟩

theorem RepD.mkBox (h : RepD Γ X N ds σ a w G St own) {d : Nat} {ls : List L} {cells : Array Value} (e : TypeId) (hv : repLs σ.mem G St (rdW w) ls cells.toList) (hk : Vm.newBox σ d ls K) :
    ∃ ef, K ef ∧ ∃ G' St' own', RepD Γ X N ds (σ.upd ef.wr) a (w.alloc (.cells cells e)) G' St' own' ∧ repLv (σ.upd ef.wr).mem G' St' (rdW (w.alloc (.cells cells e))) ef.val (.pointer (some ⟨w.heap.size, 0, none⟩)) := by
  unfold Vm.newBox at hk
  obtain ⟨⟨hf, hc, hn⟩, hK⟩ := need_iff.1 hk
  have := h.newBox hf hv (repLs_one hc hv) e
  simp only [Array.toArray_toList] at this
  refine ⟨_, hK, _, _, _, this, ?_⟩
  simp only [repLv]
  refine ⟨by simp, ls.length, ?_, List.length_pos_iff.2 hn⟩
  simp only [VS.upd, look, if_true]

theorem RepD.alloc (h : RepD Γ X N ds σ a w G St own) {t : TypeId} {d : Nat} (hk : wantO (zeq P t) fun ls => Vm.newBox σ d ls K) : Makes P Γ X N ds σ a w (Instr.alloc t true (.tuple #[])) K := by
  obtain ⟨ls, hz, hk⟩ := wantO_iff.1 hk
  obtain ⟨i, z, h1, h2, h3⟩ := zeq_some hz
  obtain ⟨ef, hK, G', St', own', hR, hv⟩ := h.mkBox t (scals_rep h3).1 hk
  exact ⟨ef, _, _, hK, by simp [Instr.alloc, zeroValue, typeInfo, h1, h2, newVar, newRow], G', St', own', hR, hv⟩

theorem RepD.boxv (h : RepD Γ X N ds σ a w G St own) {t : TypeId} {d : Nat} {x : L} {u : Value} (hx : repLv σ.mem G St (rdW w) x u) (hk : Vm.newBox σ d x.cells K) : Makes P Γ X N ds σ a w (Instr.box t u) K := by
  have hc : x.cells.all L.isCell = true := by unfold Vm.newBox at hk; exact (need_iff.1 hk).1.2.1
  obtain ⟨ef, hK, G', St', own', hR, hv⟩ := h.mkBox t (cells_rep hc hx).1 hk
  exact ⟨ef, _, _, hK, by simp [Instr.box, newVar, newRow], G', St', own', hR, hv⟩

/-! literals -/
theorem foldl_splice (off : Nat) : ∀ (vs : List Value) (k : Nat) (cells : Array Value), (vs.zipIdx k).foldl (fun cs (x : Value × Nat) => cs.setIfInBounds (off + x.2) x.1) cells = (vs.zipIdx k).foldl (fun cs (x : Value × Nat) => cs.setIfInBounds (off + x.2) x.1) cells ∧
    ∀ i : Nat, off + k + vs.length ≤ cells.size → ((vs.zipIdx k).foldl (fun cs (x : Value × Nat) => cs.setIfInBounds (off + x.2) x.1) cells)[i]? = if off + k ≤ i ∧ i < off + k + vs.length then vs[i - (off + k)]? else cells[i]?
  | [], k, cells => ⟨rfl, fun i _ => by simp only [List.zipIdx_nil, List.foldl_nil, List.length_nil]; rw [if_neg (by omega)]⟩
  | v :: vs, k, cells => ⟨rfl, fun i hle => by
    simp only [List.length_cons] at hle
    simp only [List.zipIdx_cons, List.foldl_cons]
    rw [(foldl_splice off vs (k + 1) (cells.setIfInBounds (off + k) v)).2 i (by simp; omega)]
    simp only [List.length_cons]
    by_cases h1 : i = off + k
    · subst h1
      rw [if_neg (by omega), if_pos (by omega), Nat.sub_self, List.getElem?_cons_zero, Array.getElem?_setIfInBounds_self_of_lt (by omega)]
    · by_cases h2 : off + (k + 1) ≤ i ∧ i < off + (k + 1) + vs.length
      · rw [if_pos h2, if_pos (by omega)]
        obtain ⟨j, hj⟩ : ∃ j, i - (off + k) = j + 1 := ⟨i - (off + k) - 1, by omega⟩
        rw [hj, List.getElem?_cons_succ]; congr 1; omega
      · rw [if_neg h2, if_neg (by omega), Array.getElem?_setIfInBounds_ne (by omega)]⟩

theorem fill_step {place : Nat → Option (Nat × Nat)} {cells : Array Value} {i off n : Nat} {v : Value} {rest : List (Nat × Value)} (hp : place i = some (off, n)) (hv : v.cells.toList.length = n) (hle : off + n ≤ cells.size) :
    Instr.fill place cells ((i, v) :: rest) = Instr.fill place (cells.toList.take off ++ v.cells.toList ++ cells.toList.drop (off + v.cells.toList.length)).toArray rest := by
  have hs : v.cells.size = n := by simpa using hv
  simp only [Instr.fill, hp, hs, ne_eq, not_true_eq_false, decide_false, Bool.false_or, decide_eq_true_eq]
  rw [if_neg (by omega)]
  congr 1
  apply Array.ext_getElem?
  intro k
  have h1 := (foldl_splice off v.cells.toList 0 cells).2 k (by omega)
  simp only [List.getElem?_toArray]
  rw [get_splice (by simp; omega)]
  simp only [Nat.add_zero, Array.getElem?_toList] at h1 ⊢
  rw [← h1, ← Array.foldl_toList]
  congr 1
  simp

theorem fill_ok {pl : List (Nat × Nat)} {mem : Key → M} {rd : Nat → Nat → Option Value} : ∀ {ps : List (Nat × L × Value)} {z ls : List L} {cells : Array Value}, lfill pl z (ps.map fun x => (x.1, x.2.1.cells)) = some ls → repLs mem G St rd z cells.toList → (∀ v ∈ cells.toList, v.oneCell' = true) →
    (∀ x ∈ ps, repLs mem G St rd x.2.1.cells x.2.2.cells.toList ∧ ∀ v ∈ x.2.2.cells.toList, v.oneCell' = true) →
    ∃ out, Instr.fill (pl.toArray[·]?) cells (ps.map fun x => (x.1, x.2.2)) = some out ∧ repLs mem G St rd ls out.toList ∧ ∀ v ∈ out.toList, v.oneCell' = true
  | [], z, ls, cells, h, hz, h1, _ => by
    simp only [List.map_nil, lfill, Option.some.injEq] at h
    subst h
    exact ⟨cells, rfl, hz, h1⟩
  | (i, x, v) :: ps, z, ls, cells, h, hz, h1, hp => by
    simp only [List.map_cons, lfill] at h
    split at h
    · rename_i off n hpl
      split at h
      · rename_i hc
        obtain ⟨hn, hle⟩ := hc
        obtain ⟨hx, hx1⟩ := hp (i, x, v) (by simp)
        have hlx := repLs_length hx
        have hlz := repLs_length hz
        simp only at hx hx1 hlx
        have hz' := repLs_append (repLs_append (repLs_take hz off) hx) (repLs_drop hz (off + n))
        have e : off + n = off + v.cells.toList.length := by omega
        obtain ⟨out, ho, h3, h4⟩ := fill_ok (cells := (cells.toList.take off ++ v.cells.toList ++ cells.toList.drop (off + v.cells.toList.length)).toArray) h (by rw [← e]; exact hz') (fun u hu => by
          simp only [List.append_assoc, List.mem_append] at hu
          rcases hu with hu | hu | hu
          · exact h1 u (List.mem_of_mem_take hu)
          · exact hx1 u hu
          · exact h1 u (List.mem_of_mem_drop hu)) (fun y hy => hp y (List.mem_cons_of_mem _ hy))
        refine ⟨out, ?_, h3, h4⟩
        simp only [List.map_cons]
        rw [fill_step (off := off) (n := n) (by simpa using hpl) (by omega) (by simp at hlz; omega)]
        exact ho
      · cases h
    · cases h

theorem fill_more {p q : Nat → Option (Nat × Nat)} (h : ∀ i x, p i = some x → q i = some x) : ∀ {ps : List (Nat × Value)} {cells out : Array Value}, Instr.fill p cells ps = some out → Instr.fill q cells ps = some out
  | [], _, _, hf => hf
  | (i, v) :: ps, cells, out, hf => by
    simp only [Instr.fill] at hf ⊢
    cases hp : p i with
    | none => simp [hp] at hf
    | some x =>
      rw [hp] at hf
      rw [h i x hp]
      simp only at hf ⊢
      split at hf
      · cases hf
      · rename_i hc; rw [if_neg hc]; exact fill_more h hf

theorem plq_some {t : TypeId} {pl : List (Nat × Nat)} (h : plq P t = some pl) : ∃ it, P.info? t = some it := by
  unfold plq at h
  cases hi : P.info? t with
  | some it => exact ⟨it, rfl⟩
  | none => simp [Program.underlying, hi] at h

theorem RepD.build (h : RepD Γ X N ds σ a w G St own) {t : TypeId} {ps : List (Nat × Operand)} (hk : wantO (zeq P t) fun z => wantO (plq P t) fun pl => wantO (lfill pl z (ps.map fun x => (x.1, (σ.ev Γ x.2).cells))) fun ls => need (ps.all (fun x => (σ.ev Γ x.2).cells.all L.isCell) = true) (K ⟨mkAgg ls, [], []⟩)) :
    Gives P σ G St w (Instr.build t ((ps.map fun x => (x.1, a.eval x.2)).toArray)) K := by
  obtain ⟨z, hz, hk⟩ := wantO_iff.1 hk
  obtain ⟨pl, hp, hk⟩ := wantO_iff.1 hk
  obtain ⟨ls, hl, hk⟩ := wantO_iff.1 hk
  obtain ⟨hall, hK⟩ := need_iff.1 hk
  obtain ⟨i, zv, h1, h2, h3⟩ := zeq_some hz
  obtain ⟨r1, r2, r3⟩ := scals_rep (mem := σ.mem) (G := G) (St := St) (rd := rdW w) h3
  have hmap : (ps.map fun x => (x.1, (σ.ev Γ x.2).cells)) = ((ps.map fun x => (x.1, σ.ev Γ x.2, a.eval x.2)).map fun x => (x.1, x.2.1.cells)) := by simp
  rw [hmap] at hl
  obtain ⟨out, ho, o1, o2⟩ := fill_ok hl r1 r2 (fun x hx => by
    obtain ⟨y, hy, rfl⟩ := List.mem_map.1 hx
    exact cells_rep (List.all_eq_true.1 hall y hy) (h.ev y.2))
  have hmap2 : ((ps.map fun x => (x.1, σ.ev Γ x.2, a.eval x.2)).map fun x => (x.1, x.2.2)) = ps.map fun x => (x.1, a.eval x.2) := by simp
  rw [hmap2] at ho
  have hb : P.built t (ps.map fun x => (x.1, a.eval x.2)) = some out := by
    unfold Program.built
    unfold plq at hp
    split at hp
    · rename_i fs hu
      have e : (fun f : Field => (szq P f.type).map fun n => (f.offset, n)) = fun f => (P.info? f.type).map fun i => (f.offset, i.size) := by
        funext f; simp [szq]; rfl
      rw [e] at hp
      simp only [h1, hu, h2, hp]; exact ho
    · rename_i n e hu
      obtain ⟨s, hs, rfl⟩ := Option.map_eq_some_iff.1 hp
      obtain ⟨ie, hie, rfl⟩ := szq_some hs
      simp only [h1, hu, h2, hie]
      refine fill_more (fun i x hx => ?_) ho
      simp only [List.getElem?_toArray, List.getElem?_map, Option.map_eq_some_iff] at hx
      obtain ⟨j, hj, rfl⟩ := hx
      have := List.getElem?_eq_some_iff.1 hj
      obtain ⟨hlt, e⟩ := this
      simp at e; subst e; rfl
    · cases hp
  refine ⟨_, .agg out, hK, rfl, run_build w t _ out (by simpa using hb), ?_⟩
  have := repLv_mkAgg o1 o2
  simpa using this
end Go.Vm
