import Derived.Test.YtafnpnopefamkaaVmBA
import Derived.Laws.Slices
import Derived.Laws.MakeOwn
import Derived.Laws.AppendOwn
import Derived.Great.BuildSlice
import Derived.Lib.AppendZeros
import Derived.Lib.ConvBytes
import Derived.OrdersIn
import Derived.TacticsIn
import Derived.RangeFuncSeq
import Derived.Sort.LoopGhostIn
import Derived.RangeFuncRecord
set_option linter.all false
namespace Go.Vm
variable {Γ : Nat → Option (List V)} {X : Ctx} {N : Nat} {ds : List Deferred} {σ : VS} {a : Act} {w w' : World} {G G' : GG} {St St' : Nat → Nat → Prop} {own : Nat → Prop} {P : Program} {K : Eff → Prop}

def Makes (P : Program) (Γ : Nat → Option (List V)) (X : Ctx) (N : Nat) (ds : List Deferred) (σ : VS) (a : Act) (w : World) (s : Sem Value) (K : Eff → Prop) : Prop :=
  ∃ e u w1, K e ∧ s.run P w = .ok u w1 ∧ ∃ G' St' own', RepD Γ X N ds (σ.upd e.wr) a w1 G' St' own' ∧ repLv (σ.upd e.wr).mem G' St' (rdW w1) e.val u

theorem Gives.makes (h : RepD Γ X N ds σ a w G St own) {s : Sem Value} (hg : Gives P σ G St w s K) : Makes P Γ X N ds σ a w s K := by
  obtain ⟨e, u, hK, hw, hr, hv⟩ := hg
  refine ⟨e, u, w, hK, hr, G, St, own, ?_, ?_⟩
  · rw [hw]; exact h
  · rw [hw]; exact hv

theorem zeq_some {t : TypeId} {ls : List L} (h : zeq P t = some ls) : ∃ i z, P.info? t = some i ∧ i.zero = some z ∧ z.cells.toList.mapM scal = some ls := by
  unfold zeq at h
  obtain ⟨z, h1, h2⟩ := Option.bind_eq_some_iff.1 h
  obtain ⟨i, h3, h4⟩ := Option.bind_eq_some_iff.1 h1
  exact ⟨i, z, h3, h4, h2⟩

theorem RepD.mkBox (h : RepD Γ X N ds σ a w G St own) {d : Nat} {ls : List L} {cells : Array Value} (e : TypeId) (hv : repLs σ.mem G St (rdW w) ls cells.toList) (hk : Vm.newBox σ d ls K) :
    ∃ ef, K ef ∧ ∃ G' St' own', RepD Γ X N ds (σ.upd ef.wr) a (w.alloc (.cells cells e)) G' St' own' ∧ repLv (σ.upd ef.wr).mem G' St' (rdW (w.alloc (.cells cells e))) ef.val (.pointer (some ⟨w.heap.size, 0, none⟩)) := by
  unfold Vm.newBox at hk
  obtain ⟨⟨hf, hc, hn⟩, hK⟩ := need_iff.1 hk
  have := h.newBox hf hv (repLs_one hc hv) e
  simp only [Array.toArray_toList] at this
  refine ⟨_, hK, _, _, _, this, ?_⟩
  simp only [repLv]
  refine ⟨by simp, ls.length, ?_, List.length_pos_iff.2 hn⟩
  simp only [VS.upd, look, if_true]

theorem RepD.alloc (h : RepD Γ X N ds σ a w G St own) {t : TypeId} {d : Nat} (hk : wantO (zeq P t) fun ls => Vm.newBox σ d ls K) : Makes P Γ X N ds σ a w (Instr.alloc t true (.tuple #[])) K := by
  obtain ⟨ls, hz, hk⟩ := wantO_iff.1 hk
  obtain ⟨i, z, h1, h2, h3⟩ := zeq_some hz
  obtain ⟨ef, hK, G', St', own', hR, hv⟩ := h.mkBox t (scals_rep h3).1 hk
  exact ⟨ef, _, _, hK, by simp [Instr.alloc, zeroValue, typeInfo, h1, h2, newVar, newRow], G', St', own', hR, hv⟩

theorem RepD.boxv (h : RepD Γ X N ds σ a w G St own) {t : TypeId} {d : Nat} {x : L} {u : Value} (hx : repLv σ.mem G St (rdW w) x u) (hk : Vm.newBox σ d x.cells K) : Makes P Γ X N ds σ a w (Instr.box t u) K := by
  have hc : x.cells.all L.isCell = true := by unfold Vm.newBox at hk; exact (need_iff.1 hk).1.2.1
  obtain ⟨ef, hK, G', St', own', hR, hv⟩ := h.mkBox t (cells_rep hc hx).1 hk
  exact ⟨ef, _, _, hK, by simp [Instr.box, newVar, newRow], G', St', own', hR, hv⟩

theorem foldl_splice (off : Nat) : ∀ (vs : List Value) (k : Nat) (cells : Array Value), (vs.zipIdx k).foldl (fun cs (x : Value × Nat) => cs.setIfInBounds (off + x.2) x.1) cells = (vs.zipIdx k).foldl (fun cs (x : Value × Nat) => cs.setIfInBounds (off + x.2) x.1) cells ∧
    ∀ i : Nat, off + k + vs.length ≤ cells.size → ((vs.zipIdx k).foldl (fun cs (x : Value × Nat) => cs.setIfInBounds (off + x.2) x.1) cells)[i]? = if off + k ≤ i ∧ i < off + k + vs.length then vs[i - (off + k)]? else cells[i]?
  | [], k, cells => ⟨rfl, fun i _ => by simp only [List.zipIdx_nil, List.foldl_nil, List.length_nil]; rw [if_neg (by omega)]⟩
  | v :: vs, k, cells => ⟨rfl, fun i hle => by
    simp only [List.length_cons] at hle
    simp only [List.zipIdx_cons, List.foldl_cons]
    rw [(foldl_splice off vs (k + 1) (cells.setIfInBounds (off + k) v)).2 i (by simp; omega)]
    simp only [List.length_cons]
    by_cases h1 : i = off + k
    · subst h1
      rw [if_neg (by omega), if_pos (by omega), Nat.sub_self, List.getElem?_cons_zero, Array.getElem?_setIfInBounds_self_of_lt (by omega)]
    · by_cases h2 : off + (k + 1) ≤ i ∧ i < off + (k + 1) + vs.length
      · rw [if_pos h2, if_pos (by omega)]
        obtain ⟨j, hj⟩ : ∃ j, i - (off + k) = j + 1 := ⟨i - (off + k) - 1, by omega⟩
        rw [hj, List.getElem?_cons_succ]; congr 1; omega
      · rw [if_neg h2, if_neg (by omega), Array.getElem?_setIfInBounds_ne (by omega)]⟩

theorem fill_step {place : Nat → Option (Nat × Nat)} {cells : Array Value} {i off n : Nat} {v : Value} {rest : List (Nat × Value)} (hp : place i = some (off, n)) (hv : v.cells.toList.length = n) (hle : off + n ≤ cells.size) :
    Instr.fill place cells ((i, v) :: rest) = Instr.fill place (cells.toList.take off ++ v.cells.toList ++ cells.toList.drop (off + v.cells.toList.length)).toArray rest := by
  have hs : v.cells.size = n := by simpa using hv
  simp only [Instr.fill, hp, hs, ne_eq, not_true_eq_false, decide_false, Bool.false_or, decide_eq_true_eq]
  rw [if_neg (by omega)]
  congr 1
  apply Array.ext_getElem?
  intro k
  have h1 := (foldl_splice off v.cells.toList 0 cells).2 k (by omega)
  simp only [List.getElem?_toArray]
  rw [get_splice (by simp; omega)]
  simp only [Nat.add_zero, Array.getElem?_toList] at h1 ⊢
  rw [← h1, ← Array.foldl_toList]
  congr 1
  simp

theorem fill_ok {pl : List (Nat × Nat)} {mem : Key → M} {rd : Nat → Nat → Option Value} : ∀ {ps : List (Nat × L × Value)} {z ls : List L} {cells : Array Value}, lfill pl z (ps.map fun x => (x.1, x.2.1.cells)) = some ls → repLs mem G St rd z cells.toList → (∀ v ∈ cells.toList, v.oneCell' = true) →
    (∀ x ∈ ps, repLs mem G St rd x.2.1.cells x.2.2.cells.toList ∧ ∀ v ∈ x.2.2.cells.toList, v.oneCell' = true) →
    ∃ out, Instr.fill (pl.toArray[·]?) cells (ps.map fun x => (x.1, x.2.2)) = some out ∧ repLs mem G St rd ls out.toList ∧ ∀ v ∈ out.toList, v.oneCell' = true
  | [], z, ls, cells, h, hz, h1, _ => by
    simp only [List.map_nil, lfill, Option.some.injEq] at h
    subst h
    exact ⟨cells, rfl, hz, h1⟩
  | (i, x, v) :: ps, z, ls, cells, h, hz, h1, hp => by
    simp only [List.map_cons, lfill] at h
    split at h
    · rename_i off n hpl
      split at h
      · rename_i hc
        obtain ⟨hn, hle⟩ := hc
        obtain ⟨hx, hx1⟩ := hp (i, x, v) (by simp)
        have hlx := repLs_length hx
        have hlz := repLs_length hz
        simp only at hx hx1 hlx
        have hz' := repLs_append (repLs_append (repLs_take hz off) hx) (repLs_drop hz (off + n))
        have e : off + n = off + v.cells.toList.length := by omega
        obtain ⟨out, ho, h3, h4⟩ := fill_ok (cells := (cells.toList.take off ++ v.cells.toList ++ cells.toList.drop (off + v.cells.toList.length)).toArray) h (by rw [← e]; exact hz') (fun u hu => by
          simp only [List.append_assoc, List.mem_append] at hu
          rcases hu with hu | hu | hu
          · exact h1 u (List.mem_of_mem_take hu)
          · exact hx1 u hu
          · exact h1 u (List.mem_of_mem_drop hu)) (fun y hy => hp y (List.mem_cons_of_mem _ hy))
        refine ⟨out, ?_, h3, h4⟩
        simp only [List.map_cons]
        rw [fill_step (off := off) (n := n) (by simpa using hpl) (by omega) (by simp at hlz; omega)]
        exact ho
      · cases h
    · cases h

theorem fill_more {p q : Nat → Option (Nat × Nat)} (h : ∀ i x, p i = some x → q i = some x) : ∀ {ps : List (Nat × Value)} {cells out : Array Value}, Instr.fill p cells ps = some out → Instr.fill q cells ps = some out
  | [], _, _, hf => hf
  | (i, v) :: ps, cells, out, hf => by
    simp only [Instr.fill] at hf ⊢
    cases hp : p i with
    | none => simp [hp] at hf
    | some x =>
      rw [hp] at hf
      rw [h i x hp]
      simp only at hf ⊢
      split at hf
      · cases hf
      · rename_i hc; rw [if_neg hc]; exact fill_more h hf

theorem RepD.build (h : RepD Γ X N ds σ a w G St own) {t : TypeId} {ps : List (Nat × Operand)} (hk : wantO (zeq P t) fun z => wantO (plq P t) fun pl => wantO (lfill pl z (ps.map fun x => (x.1, (σ.ev Γ x.2).cells))) fun ls => need (ps.all (fun x => (σ.ev Γ x.2).cells.all L.isCell) = true) (K ⟨mkAgg ls, [], []⟩)) :
    Gives P σ G St w (Instr.build t ((ps.map fun x => (x.1, a.eval x.2)).toArray)) K := by
  obtain ⟨z, hz, hk⟩ := wantO_iff.1 hk
  obtain ⟨pl, hp, hk⟩ := wantO_iff.1 hk
  obtain ⟨ls, hl, hk⟩ := wantO_iff.1 hk
  obtain ⟨hall, hK⟩ := need_iff.1 hk
  obtain ⟨i, zv, h1, h2, h3⟩ := zeq_some hz
  obtain ⟨r1, r2, r3⟩ := scals_rep (mem := σ.mem) (G := G) (St := St) (rd := rdW w) h3
  have hmap : (ps.map fun x => (x.1, (σ.ev Γ x.2).cells)) = ((ps.map fun x => (x.1, σ.ev Γ x.2, a.eval x.2)).map fun x => (x.1, x.2.1.cells)) := by simp
  rw [hmap] at hl
  obtain ⟨out, ho, o1, o2⟩ := fill_ok hl r1 r2 (fun x hx => by
    obtain ⟨y, hy, rfl⟩ := List.mem_map.1 hx
    exact cells_rep (List.all_eq_true.1 hall y hy) (h.ev y.2))
  have hmap2 : ((ps.map fun x => (x.1, σ.ev Γ x.2, a.eval x.2)).map fun x => (x.1, x.2.2)) = ps.map fun x => (x.1, a.eval x.2) := by simp
  rw [hmap2] at ho
  have hb : P.built t (ps.map fun x => (x.1, a.eval x.2)) = some out := by
    unfold Program.built
    unfold plq at hp
    split at hp
    · rename_i fs hu
      have e : (fun f : Field => (szq P f.type).map fun n => (f.offset, n)) = fun f => (P.info? f.type).map fun i => (f.offset, i.size) := by
        funext f; simp [szq]; rfl
      rw [e] at hp
      simp only [h1, hu, h2, hp]; exact ho
    · rename_i n e hu
      obtain ⟨s, hs, rfl⟩ := Option.map_eq_some_iff.1 hp
      obtain ⟨ie, hie, rfl⟩ := szq_some hs
      simp only [h1, hu, h2, hie]
      refine fill_more (fun i x hx => ?_) ho
      simp only [List.getElem?_toArray, List.getElem?_map, Option.map_eq_some_iff] at hx
      obtain ⟨j, hj, rfl⟩ := hx
      have := List.getElem?_eq_some_iff.1 hj
      obtain ⟨hlt, e⟩ := this
      simp at e; subst e; rfl
    · cases hp
  refine ⟨_, .agg out, hK, rfl, run_build w t _ out (by simpa using hb), ?_⟩
  have := repLv_mkAgg o1 o2
  simpa using this
end Go.Vm

namespace Go.Vm
variable {Γ : Nat → Option (List V)} {X : Ctx} {N : Nat} {ds : List Deferred} {σ : VS} {a : Act} {w w' : World} {G G' : GG} {St St' : Nat → Nat → Prop} {own : Nat → Prop} {P : Program} {K : Eff → Prop}

theorem VS.same0 {σ σ' : VS} (h1 : ∀ t, σ.get t = σ'.get t) (h2 : ∀ k, σ.mem k = σ'.mem k) : σ = σ' := by
  cases σ; cases σ'
  simp only [VS.mk.injEq]
  exact ⟨funext h1, funext h2⟩

theorem rs_inj {d j k : Nat} : rs d j = rs d k ↔ j = k := by unfold rs; omega
theorem look_tabR_c {d t k : Nat} {e : TypeId} {es : Nat} {m : M} : ∀ {l : List Row} {j : Nat}, look (.c t k) m (tabR d e es j l) = if t = d ∧ j ≤ k then (match l[k - j]? with | some r => .cell (.arr (rs d k) r.g) | none => m) else m
  | [], j => by simp [tabR, look]
  | r :: l, j => by
    simp only [tabR, look, Key.c.injEq, reduceCtorEq, if_false]
    by_cases h : t = d ∧ k = j
    · obtain ⟨rfl, rfl⟩ := h; simp
    · rw [if_neg h, look_tabR_c]
      by_cases h1 : t = d
      · by_cases h2 : j ≤ k
        · have h3 : j + 1 ≤ k := by have : k ≠ j := fun e => h ⟨h1, e⟩; omega
          have : k - j = (k - (j + 1)) + 1 := by omega
          simp [h1, h2, h3, this]
        · have : ¬ (j + 1 ≤ k) := by omega
          simp [h1, h2, this]
      · simp [h1]
theorem look_tabR_a {d k : Nat} {e : TypeId} {es : Nat} {m : M} : ∀ {l : List Row} {j : Nat}, look (.a (rs d k)) m (tabR d e es j l) = if j ≤ k then (match l[k - j]? with | some r => .arr r.g e es r.xs | none => m) else m
  | [], j => by simp [tabR, look]
  | r :: l, j => by
    simp only [tabR, look, Key.a.injEq, reduceCtorEq, if_false, rs_inj]
    by_cases h : k = j
    · subst h; simp
    · rw [if_neg h, look_tabR_a]
      by_cases h2 : j ≤ k
      · have h3 : j + 1 ≤ k := by omega
        have : k - j = (k - (j + 1)) + 1 := by omega
        simp [h2, h3, this]
      · have : ¬ (j + 1 ≤ k) := by omega
        simp [h2, this]
theorem look_tabR_f {d k : Nat} {e : TypeId} {es : Nat} {m : M} : ∀ {l : List Row} {j : Nat}, look (.f (rs d k)) m (tabR d e es j l) = if j ≤ k then (match l[k - j]? with | some r => if r.fz then .frz else .none | none => m) else m
  | [], j => by simp [tabR, look]
  | r :: l, j => by
    simp only [tabR, look, Key.f.injEq, reduceCtorEq, if_false, rs_inj]
    by_cases h : k = j
    · subst h; simp
    · rw [if_neg h, look_tabR_f]
      by_cases h2 : j ≤ k
      · have h3 : j + 1 ≤ k := by omega
        have : k - j = (k - (j + 1)) + 1 := by omega
        simp [h2, h3, this]
      · have : ¬ (j + 1 ≤ k) := by omega
        simp [h2, this]
theorem look_tabR_an {d t : Nat} {e : TypeId} {es : Nat} {m : M} (h : ∀ k, t ≠ rs d k) : ∀ {l : List Row} {j : Nat}, look (.a t) m (tabR d e es j l) = m
  | [], j => rfl
  | r :: l, j => by simp only [tabR, look, Key.a.injEq, reduceCtorEq, if_false, h j]; exact look_tabR_an h
theorem look_tabR_fn {d t : Nat} {e : TypeId} {es : Nat} {m : M} (h : ∀ k, t ≠ rs d k) : ∀ {l : List Row} {j : Nat}, look (.f t) m (tabR d e es j l) = m
  | [], j => rfl
  | r :: l, j => by simp only [tabR, look, Key.f.injEq, reduceCtorEq, if_false, h j]; exact look_tabR_fn h
theorem look_tabR_b {d t : Nat} {e : TypeId} {es : Nat} {m : M} : ∀ {l : List Row} {j : Nat}, look (.b t) m (tabR d e es j l) = m
  | [], j => rfl
  | r :: l, j => by simp only [tabR, look, reduceCtorEq, if_false]; exact look_tabR_b
theorem look_tabR_y {d : Nat} {e : TypeId} {es : Nat} {m : M} : ∀ {l : List Row} {j : Nat}, look .y m (tabR d e es j l) = m
  | [], j => rfl
  | r :: l, j => by simp only [tabR, look, reduceCtorEq, if_false]; exact look_tabR_y
theorem look_tabR_v {d t : Nat} {e : TypeId} {es : Nat} {m : M} : ∀ {l : List Row} {j : Nat}, look (.v t) m (tabR d e es j l) = m
  | [], j => rfl
  | r :: l, j => by simp only [tabR, look, reduceCtorEq, if_false]; exact look_tabR_v

theorem freshR_at {d : Nat} : ∀ {n j : Nat}, freshR σ d j n = true → ∀ k, j ≤ k → k < j + n → fresh σ (rs d k) = true
  | 0, j, _, k, h1, h2 => by omega
  | n + 1, j, h, k, h1, h2 => by
    simp only [freshR, Bool.and_eq_true] at h
    by_cases hk : k = j
    · subst hk; exact h.1
    · exact freshR_at h.2 k (by omega) (by omega)
theorem freshR_of {d : Nat} : ∀ {n j : Nat}, (∀ k, j ≤ k → k < j + n → fresh σ (rs d k) = true) → freshR σ d j n = true
  | 0, j, _ => rfl
  | n + 1, j, h => by
    simp only [freshR, Bool.and_eq_true]
    exact ⟨h j (Nat.le_refl _) (by omega), freshR_of fun k h1 h2 => h k (by omega) (by omega)⟩

theorem RepD.nilRow (h : RepD Γ X N ds σ a w G St own) {d m j : Nat} (hb : σ.mem (.b d) = .box m) (hc : σ.mem (.c d j) = .cell .nilS) (hf : fresh σ (rs d j) = true) {e : TypeId} {es : Nat} (h0 : 0 < es) :
    ∃ G', RepD Γ X N ds (σ.upd [(.c d j, .cell (.arr (rs d j) 0)), (.a (rs d j), .arr 0 e es []), (.f (rs d j), .none)]) a w G' St own ∧ G'.bk = G.bk := by
  have hN := h.newArr (d := rs d j) (e := e) (xs := []) (vs := []) (v := .slice none 0 0) hf h0 (ownsRow_nil w e es) repEs_nil (fun b hb => by simp [Value.ownBlock] at hb)
  have hC := hN.nameCell (t0 := d) (j0 := j) (n0 := m) (l0 := .nilS) (l1 := .arr (rs d j) 0) (by simp only [VS.upd, look, reduceCtorEq, if_false]; exact hb) (by simp only [VS.upd, look, reduceCtorEq, if_false]; exact hc) (fun v hv => by
    simp only [repLv] at hv ⊢
    subst hv
    exact ⟨0, e, es, [], by simp [VS.upd, look], Nat.le_refl _, rfl, fun _ => by simp⟩)
  rw [upd_upd] at hC
  exact ⟨_, hC, rfl⟩

theorem RepD.nilRows {d m : Nat} {e : TypeId} {es : Nat} (h0 : 0 < es) : ∀ {n j : Nat} {σ : VS} {G : GG}, RepD Γ X N ds σ a w G St own → σ.mem (.b d) = .box m → (∀ k, j ≤ k → k < j + n → σ.mem (.c d k) = .cell .nilS) → freshR σ d j n = true →
    ∃ G', RepD Γ X N ds (σ.upd (tabR d e es j (List.replicate n row0))) a w G' St own ∧ G'.bk = G.bk
  | 0, j, σ, G, h, _, _, _ => ⟨G, by simp only [List.replicate_zero, tabR]; exact h.nop, rfl⟩
  | n + 1, j, σ, G, h, hb, hc, hf => by
    obtain ⟨G1, h1, e1⟩ := RepD.nilRows (n := n) (j := j + 1) h0 h hb (fun k p q => hc k (by omega) (by omega)) (by simp only [freshR, Bool.and_eq_true] at hf; exact hf.2)
    have hfj := freshR_at hf j (Nat.le_refl _) (by omega)
    obtain ⟨f1, f2⟩ := fresh_iff.1 hfj
    obtain ⟨G2, h2, e2⟩ := h1.nilRow (d := d) (m := m) (j := j) (e := e) (es := es) (by simp only [VS.upd, look_tabR_b]; exact hb)
      (by simp only [VS.upd, look_tabR_c]; rw [if_neg (by omega)]; exact hc j (Nat.le_refl _) (by omega))
      (fresh_iff.2 ⟨by simp only [VS.upd, look_tabR_b]; exact f1, by simp only [VS.upd, look_tabR_a]; rw [if_neg (by omega)]; exact f2⟩) h0
    rw [upd_upd] at h2
    refine ⟨G2, ?_, e2.trans e1⟩
    simpa [List.replicate_succ, tabR, row0] using h2

theorem scal_nilS {v : Value} (h : scal v = some .nilS) : v = .slice none 0 0 := by
  unfold scal at h
  split at h <;> first | rfl | (simp at h; done)

theorem isRow_z {z : List L} (h : isRow z = true) : z = [.nilS] := by
  unfold isRow at h
  split at h
  · rfl
  · cases h

theorem tabW_upd {d : Nat} {e : TypeId} {es n : Nat} : (σ.upd ((.b d, .box (List.replicate n L.nilS).length) :: (.f d, .none) :: cellsW d 0 (List.replicate n .nilS))).upd (tabR d e es 0 (List.replicate n row0)) = σ.upd (tabW d e es (List.replicate n row0)) := by
  rw [upd_upd]
  refine VS.same0 (fun _ => rfl) fun k => ?_
  simp only [VS.upd, tabW, look_append]
  cases k with
  | c t j =>
    simp only [look_tabR_c, look, reduceCtorEq, if_false, look_cellsW, Nat.zero_le, and_true, Nat.sub_zero]
    by_cases ht : t = d
    · subst ht
      by_cases hj : j < n <;> simp [List.getElem?_replicate, hj, row0]
    · simp [ht]
  | b t => simp only [look_tabR_b, look, Key.b.injEq, List.length_replicate]; split <;> first | rfl | (simp only [reduceCtorEq, if_false, look_cellsW_b])
  | f t =>
    by_cases ht : ∃ k, t = rs d k
    · obtain ⟨k, rfl⟩ := ht
      have hne : rs d k ≠ d := by unfold rs; omega
      simp only [look_tabR_f, look, Key.f.injEq, reduceCtorEq, if_false, hne, look_cellsW_f]
    · have h1 : ∀ k, t ≠ rs d k := fun k e => ht ⟨k, e⟩
      simp only [look_tabR_fn h1, look, Key.f.injEq, reduceCtorEq, if_false, look_cellsW_f]
  | a t =>
    by_cases ht : ∃ k, t = rs d k
    · obtain ⟨k, rfl⟩ := ht
      simp only [look_tabR_a, look, reduceCtorEq, if_false, look_cellsW_a]
    · have h1 : ∀ k, t ≠ rs d k := fun k e => ht ⟨k, e⟩
      simp only [look_tabR_an h1, look, reduceCtorEq, if_false, look_cellsW_a]
  | y => simp only [look_tabR_y, look, reduceCtorEq, if_false, look_cellsW_y]
  | v t => simp only [look_tabR_v, look, reduceCtorEq, if_false, look_cellsW_v]

theorem RepD.makeTab (h : RepD Γ X N ds σ a w G St own) {d : Nat} {t e : TypeId} {z : List L} {n c : L} {u v : Value} (hn : repLv σ.mem G St (rdW w) n u) (hc : repLv σ.mem G St (rdW w) c v) (he : elq P t = some e) (hz : zeq P e = some z) (hrow : isRow z = true) (hk : vmakeTab P σ d e n c K) :
    Makes P Γ X N ds σ a w (Instr.makeSlice t u v) K := by
  unfold vmakeTab at hk
  obtain ⟨e2, he2, hk1⟩ := wantO_iff.1 hk
  obtain ⟨es2, hes2, hk2⟩ := wantO_iff.1 hk1
  obtain ⟨es, hes, hk3⟩ := wantO_iff.1 hk2
  obtain ⟨by', hby, hk7⟩ := wantO_iff.1 hk3
  clear hk hk1 hk2 hk3
  split at hk7
  · rename_i k m k' m'
    obtain ⟨⟨rfl, rfl, rfl, h1, h2, h3, rfl, h5, h6, h7⟩, hK⟩ := need_iff.1 hk7
    rw [pint hn, pint hc]
    obtain ⟨ie, hie, hsz⟩ := szq_some hes
    obtain ⟨i, zv, g1, g2, g3⟩ := zeq_some hz
    rw [hie] at g1; cases g1
    obtain ⟨ie2, hie2, hb⟩ := byq_some hby
    rw [hie] at hie2; cases hie2
    rw [isRow_z hrow] at g3
    have hzc : zv.cells.toList = [.slice none 0 0] := by
      match hl : zv.cells.toList with
      | [] => rw [hl] at g3; simp at g3
      | x :: r =>
        rw [hl] at g3
        simp only [List.mapM_cons, Option.bind_eq_bind, Option.bind_eq_some_iff, Option.pure_def, Option.some.injEq, List.cons.injEq] at g3
        obtain ⟨l, p1, l', p2, p3, rfl⟩ := g3
        subst p3
        rw [scal_nilS p1]
        cases r with
        | nil => rfl
        | cons y r =>
          simp only [List.mapM_cons, Option.bind_eq_bind, Option.bind_eq_some_iff, Option.pure_def, Option.some.injEq] at p2
          obtain ⟨_, _, _, _, p4⟩ := p2
          cases p4
    obtain ⟨n0, rfl⟩ := Int.eq_ofNat_of_zero_le h1
    simp only [Int.toNat_natCast] at h2 h7 hK
    have hn0 : n0 ≤ maxBytes := Nat.le_trans (Nat.le_mul_of_pos_right n0 (by omega)) h2
    have hbb : ie.bytes * n0 ≤ 281474976710656 := by
      rw [hb]; have : by' * n0 ≤ n0 * (by' + 1) := by rw [Nat.mul_comm n0, Nat.succ_mul]; omega
      unfold maxBytes at h2; omega
    have hbb' : (ie.bytes : Int) * (n0 : Int) ≤ 281474976710656 := by
      have h6 : ((ie.bytes * n0 : Nat) : Int) ≤ 281474976710656 := by omega
      rwa [Int.natCast_mul] at h6
    have hrun := run_make (P := P) w t e ie zv (elq_some he) hie g2 .i64 .i64 (n0 : Int) (n0 : Int) (by omega) (by omega) hbb' (by unfold maxBytes at hn0; omega)
    simp only [Int.toNat_natCast] at hrun
    have hcells : madeCells zv.cells (n0 * ie.size) = (List.replicate n0 (Value.slice none 0 0)).toArray := by
      apply Array.ext_getElem?
      intro j
      rw [hsz]
      have hzz : zv.cells = #[.slice none 0 0] := by rw [← Array.toArray_toList (xs := zv.cells), hzc]
      simp only [madeCells, Array.getElem?_map, hzz, Nat.mul_one, List.getElem?_toArray, List.getElem?_replicate]
      by_cases hj : j < n0
      · rw [Array.getElem?_range]; simp [hj, Nat.mod_one]
      · simp [hj]
    rw [hcells] at hrun
    have hR := h.newBox (d := d) h3 (ls := List.replicate n0 .nilS) (vs := List.replicate n0 (.slice none 0 0)) (repLs_get.2 ⟨by simp, fun i l v hl hv => by
      simp only [List.getElem?_replicate] at hl hv
      split at hl
      · rename_i hi; rw [if_pos hi] at hv; cases hl; cases hv; simp only [repLv]
      · cases hl⟩) (fun v hv => by rw [(List.mem_replicate.1 hv).2]; rfl) e
    obtain ⟨G2, hR2, e2⟩ := RepD.nilRows (d := d) (m := n0) (e := e2) (es := es2) (n := n0) (j := 0) h5 hR
      (by simp [VS.upd, look])
      (fun k _ hk => by
        simp only [VS.upd, look, reduceCtorEq, if_false, look_cellsW]
        have : k < n0 := by omega
        simp [List.getElem?_replicate, this])
      (freshR_of fun k _ hk => by
        obtain ⟨f1, f2⟩ := fresh_iff.1 (freshR_at h7 k (by omega) (by omega))
        have hne : rs d k ≠ d := by unfold rs; omega
        exact fresh_iff.2 ⟨by simp only [VS.upd, look, Key.b.injEq, hne, reduceCtorEq, if_false, look_cellsW_b]; exact f1, by simp only [VS.upd, look, reduceCtorEq, if_false, look_cellsW_a]; exact f2⟩)
    rw [tabW_upd] at hR2
    refine ⟨_, _, _, hK, hrun, _, _, _, hR2, ?_⟩
    simp only [repLv]
    refine ⟨n0, by simp [VS.upd, tabW, look], ?_⟩
    rw [e2]; simp
  · exact hk7.elim
end Go.Vm

namespace Go.Vm
variable {Γ : Nat → Option (List V)} {X : Ctx} {N : Nat} {ds : List Deferred} {σ : VS} {a : Act} {w w' : World} {G G' : GG} {St St' : Nat → Nat → Prop} {own : Nat → Prop} {P : Program} {K : Eff → Prop}

theorem RepD.mkArr (h : RepD Γ X N ds σ a w G St own) {d : Nat} (hf : fresh σ d = true) {e : TypeId} {es cap : Nat} {xs : List V} {cells : Array Value} (h0 : 0 < es) (hc : xs.length ≤ cap) (hm : cap ≤ maxLen) (hs : cells.size = cap * es)
    (he : repEs St (rdW w) es xs (cells.toList.take (xs.length * es))) :
    ∃ G' own', RepD Γ X N ds (σ.upd [(.a d, .arr 0 e es xs), (.f d, .none)]) a (w.alloc (.cells cells e)) G' St own' ∧ repLv (σ.upd [(.a d, .arr 0 e es xs), (.f d, .none)]).mem G' St (rdW (w.alloc (.cells cells e))) (.arr d 0) (.slice (some ⟨w.heap.size, 0, none⟩) xs.length cap) := by
  have h' := h.ext (Stp.alloc (fun _ => False) w (.cells cells e))
  have hrd : ∀ b o, St b o → rdW (w.alloc (.cells cells e)) b o = rdW w b o := fun b o hb => rdW_of_block (RowKit.Below.heap_alloc w _ b (h.stlt b o hb))
  have hn := h'.newArr (d := d) hf (e := e) (es := es) (xs := xs) (v := .slice (some ⟨w.heap.size, 0, none⟩) xs.length cap) h0
    ⟨he.1, .inr ⟨w.heap.size, cap, cells, rfl, Nat.zero_le _, heap_alloc_new w _, hc, hm, hs, rfl⟩⟩
    (repEs_mono (fun _ _ h => h) hrd he)
    (fun b hb => by
      simp only [Value.ownBlock, Option.some.injEq] at hb
      subst hb
      exact ⟨.inr ⟨Nat.le_refl _, by simp⟩, fun t ht => by have := h.blk_lt ht; omega, fun o ho => by have := h.stlt _ o ho; omega⟩)
  refine ⟨_, _, hn, ?_⟩
  simp only [repLv]
  exact ⟨0, e, es, xs, by simp [VS.upd, look], Nat.le_refl _, rfl, fun _ => by simp⟩

theorem flat_get {es : Nat} : ∀ {vs : List Value}, (∀ v ∈ vs, v.cells.toList.length = es) → (vs.flatMap fun v => v.cells.toList).length = vs.length * es ∧ ∀ i v, vs[i]? = some v → ((vs.flatMap fun v => v.cells.toList).drop (i * es)).take es = v.cells.toList
  | [], _ => by simp
  | u :: vs, h => by
    obtain ⟨h1, h2⟩ := flat_get (vs := vs) fun v hv => h v (List.mem_cons_of_mem _ hv)
    have hu := h u (by simp)
    refine ⟨by simp only [List.flatMap_cons, List.length_append, List.length_cons, h1, hu, Nat.succ_mul]; omega, fun i v hi => ?_⟩
    simp only [List.flatMap_cons]
    cases i with
    | zero => simp only [List.getElem?_cons_zero, Option.some.injEq] at hi; subst hi; rw [Nat.zero_mul, List.drop_zero, List.take_left' hu]
    | succ i =>
      have : (i + 1) * es = u.cells.toList.length + i * es := by rw [hu, Nat.succ_mul]; omega
      rw [this, ← List.drop_drop, List.drop_left]
      exact h2 i v (by simpa using hi)

theorem fill_all {es : Nat} : ∀ {vs : List Value} {k : Nat} {cells : Array Value}, (∀ v ∈ vs, v.cells.toList.length = es) → (k + vs.length) * es ≤ cells.size →
    ∃ out : Array Value, Instr.fill (fun i => some (i * es, es)) cells ((vs.zipIdx k).map fun x => (x.2, x.1)) = some out ∧ out.toList = cells.toList.take (k * es) ++ (vs.flatMap fun v => v.cells.toList) ++ cells.toList.drop ((k + vs.length) * es)
  | [], k, cells, _, _ => ⟨cells, rfl, by simp⟩
  | v :: vs, k, cells, h, hs => by
    have hv := h v (by simp)
    have hks : (k + 1) * es + vs.length * es ≤ cells.size := by rw [← Nat.add_mul]; simp only [List.length_cons] at hs; rw [Nat.add_right_comm, Nat.add_assoc]; exact hs
    have hk1 : (k + 1) * es = k * es + es := by rw [Nat.succ_mul]
    obtain ⟨out, h1, h2⟩ := fill_all (vs := vs) (k := k + 1) (cells := (cells.toList.take (k * es) ++ v.cells.toList ++ cells.toList.drop (k * es + v.cells.toList.length)).toArray) (fun u hu => h u (List.mem_cons_of_mem _ hu)) (by simp only [List.size_toArray, List.length_append, List.length_take, List.length_drop, Array.length_toList, hv, Nat.add_mul] at hks ⊢; omega)
    refine ⟨out, ?_, ?_⟩
    · simp only [List.zipIdx_cons, List.map_cons]
      rw [fill_step (off := k * es) (n := es) rfl hv (by omega)]
      exact h1
    · rw [h2]
      have hl : (cells.toList.take (k * es) ++ v.cells.toList).length = (k + 1) * es := by simp only [List.length_append, List.length_take, Array.length_toList, hv]; omega
      simp only [List.flatMap_cons]
      rw [List.take_left' hl, ← List.append_assoc (cells.toList.take (k * es))]
      congr 1
      have e1 : (k + 1 + vs.length) * es = (cells.toList.take (k * es) ++ v.cells.toList).length + vs.length * es := by rw [hl, Nat.add_mul]
      rw [e1, ← List.drop_drop, List.drop_left, List.drop_drop]
      congr 1
      simp only [List.length_cons, hv, Nat.add_mul]; omega

theorem repT_get {rd : Nat → Nat → Option Value} : ∀ {xs : List V} {vs : List Value}, repT St rd xs vs → xs.length = vs.length ∧ ∀ (i : Nat) (x : V), xs[i]? = some x → ∃ v, vs[i]? = some v ∧ rep St rd x v
  | [], vs, h => by simp only [repT] at h; subst h; simp
  | x :: xs, vs, h => by
    simp only [repT] at h
    obtain ⟨v, r, rfl, h1, h2⟩ := h
    obtain ⟨p, q⟩ := repT_get h2
    refine ⟨by simp [p], fun i y hi => ?_⟩
    cases i with
    | zero => simp at hi; subst hi; exact ⟨v, rfl, h1⟩
    | succ i => obtain ⟨u, hu, hr⟩ := q i y (by simpa using hi); exact ⟨u, by simpa using hu, hr⟩

theorem repEs_flat {rd : Nat → Nat → Option Value} {es : Nat} {xs : List V} {vs : List Value} (h : repT St rd xs vs) (hes : ∀ y ∈ xs, y.cells.length = es) : repEs St rd es xs (vs.flatMap fun v => v.cells.toList) ∧ ∀ v ∈ vs, v.cells.toList.length = es := by
  obtain ⟨h1, h2⟩ := repT_get h
  have hv : ∀ v ∈ vs, v.cells.toList.length = es := fun v hv => by
    obtain ⟨i, hi⟩ := List.mem_iff_getElem?.1 hv
    have hil : i < xs.length := by rw [h1]; exact (List.getElem?_eq_some_iff.1 hi).1
    obtain ⟨u, hu, hr⟩ := h2 i xs[i] (by simp [hil])
    rw [hi] at hu; cases hu
    rw [repC_len _ _ hr.1]; exact hes _ (List.getElem_mem hil)
  obtain ⟨f1, f2⟩ := flat_get hv
  refine ⟨⟨by rw [f1, h1], fun i x hi => ?_⟩, hv⟩
  obtain ⟨u, hu, hr⟩ := h2 i x hi
  rw [f2 i u hu]; exact hr.1

theorem RepD.buildSl (h : RepD Γ X N ds σ a w G St own) {d : Nat} {t : TypeId} {n : Nat} {ps : List (Nat × Operand)} (hk : vbuildSlice P σ d t n (ps.map (·.1)) (ps.map fun x => σ.ev Γ x.2) K) :
    Makes P Γ X N ds σ a w (Instr.buildSlice t n ((ps.map fun x => (x.1, a.eval x.2)).toArray)) K := by
  unfold vbuildSlice at hk
  obtain ⟨e, he, hk⟩ := wantO_iff.1 hk
  obtain ⟨es, hes, hk⟩ := wantO_iff.1 hk
  obtain ⟨zz, hzz, hk⟩ := wantO_iff.1 hk
  obtain ⟨q, hq, hk⟩ := wantO_iff.1 hk
  obtain ⟨⟨k1, k2, k3, k4, k5, k6, k7⟩, hK⟩ := need_iff.1 hk
  have hls : repLs σ.mem G St (rdW w) (ps.map fun x => σ.ev Γ x.2) (ps.map fun x => a.eval x.2) := by
    have := h.evs (ps.map (·.2)); simpa [List.map_map, Function.comp_def] using this
  have hF := h.frz q.fz
  have hT := h.pubs hq hls (fz := q.fz) fun _ h => h
  obtain ⟨hE, hvl⟩ := repEs_flat hT k4
  have hn : (ps.map fun x => a.eval x.2).length = n := by simpa using k2
  have hqn : q.vs.length = n := by rw [(repT_get hT).1, hn]
  obtain ⟨ie, hie, hsz⟩ := szq_some hes
  subst hsz
  -- the parts, in the order of their numbers
  have hparts : (ps.map fun x => (x.1, a.eval x.2)) = ((ps.map fun x => a.eval x.2).zipIdx 0).map fun x => (x.2, x.1) := by
    apply List.ext_getElem?
    intro i
    have hi := congrArg (fun l : List Nat => l[i]?) k1
    simp only [List.getElem?_map, List.getElem?_zipIdx, Option.map_map] at hi ⊢
    cases hp : ps[i]? with
    | none => simp
    | some x =>
      have hin : i < n := by have := (List.getElem?_eq_some_iff.1 hp).1; simp at hn; omega
      rw [hp] at hi
      simp [hin] at hi
      simp [hi]
  have hf : fresh (σ.upd (frzs q.fz)) d = true := by
    obtain ⟨f1, f2⟩ := fresh_iff.1 k3
    exact fresh_iff.2 ⟨by rw [← f1]; exact look_frzs (by simp), by rw [← f2]; exact look_frzs (by simp)⟩
  have fin : ∀ cells : Array Value, cells.toList = ((ps.map fun x => a.eval x.2).flatMap fun v => v.cells.toList) → (Instr.buildSlice t n ((ps.map fun x => (x.1, a.eval x.2)).toArray)).run P w = .ok (.slice (some ⟨w.heap.size, 0, none⟩) n n) (w.alloc (.cells cells e)) →
      Makes P Γ X N ds σ a w (Instr.buildSlice t n ((ps.map fun x => (x.1, a.eval x.2)).toArray)) K := fun cells hcells hrun => by
    have hlen : cells.toList.length = n * ie.size := by rw [hcells, (flat_get hvl).1, hn]
    obtain ⟨G', own', hR, hv⟩ := hF.mkArr hf (e := e) (es := ie.size) (cap := n) (xs := q.vs) (cells := cells) k7 (by omega) (by have := Nat.le_mul_of_pos_right n k7; unfold maxLen; omega) (by simpa using hlen)
      (by rw [hqn, ← hlen, List.take_length, hcells]; exact hE)
    rw [upd_upd] at hR hv
    rw [hqn] at hv
    exact ⟨_, _, _, hK, hrun, _, _, _, hR, hv⟩
  have hil := Nat.le_mul_of_pos_right n k7
  by_cases h0 : n = 0
  · subst h0
    have hps : ps = [] := by cases ps <;> first | rfl | simp at hn
    subst hps
    exact fin #[] (by simp) (by simp [Instr.buildSlice, run_underlying (elq_some he), sizeOf, typeInfo, hie, Instr.fill, newRow]; rw [Array.eq_empty_of_size_eq_zero (xs := Array.map _ (Array.range 0)) (by simp)])
  · obtain ⟨i, z, g1, g2, _⟩ := zeq_some hzz
    rw [hie] at g1; cases g1
    obtain ⟨out, o1, o2⟩ := fill_all (es := ie.size) (vs := ps.map fun x => a.eval x.2) (k := 0) (cells := (Array.range (n * ie.size)).map (z.cells[· % z.cells.size]!)) hvl (by simp [hn])
    refine fin out ?_ ?_
    · rw [o2, hn]; simp
    · refine run_buildSlice w t e n _ out ie z (elq_some he) hie g2 (by omega) (by omega) ?_
      rw [hparts]; exact o1

theorem run_scal_fz {σ : VS} : ∀ {vs : List Value} {ls : List L} {q : Pubs}, vs.mapM scal = some ls → pubWith (Vm.pub0 σ) ls = some q → q.fz = []
  | [], ls, q, h, hq => by simp at h; subst h; rw [pubWith_nil] at hq; cases hq; rfl
  | v :: vs, ls, q, h, hq => by
    simp only [List.mapM_cons, Option.bind_eq_bind, Option.bind_eq_some_iff, Option.pure_def, Option.some.injEq] at h
    obtain ⟨l, h1, ls', h2, rfl⟩ := h
    obtain ⟨q1, q2, g1, g2, rfl⟩ := pubWith_cons hq
    have hfz : q1.fz = [] := by
      unfold scal at h1
      split at h1 <;> first | (cases h1; done) | skip
      all_goals
        simp only [Option.some.injEq] at h1
        subst h1
        simp only [Vm.pub0, Option.some.injEq] at g1
        subst g1; rfl
    simp [hfz, run_scal_fz h2 g2]

theorem RepD.makeSl (h : RepD Γ X N ds σ a w G St own) {d : Nat} {t : TypeId} {n c : L} {u v : Value} (hn : repLv σ.mem G St (rdW w) n u) (hc : repLv σ.mem G St (rdW w) c v) (hk : vmakeSlice P σ d t n c K) :
    Makes P Γ X N ds σ a w (Instr.makeSlice t u v) K := by
  unfold vmakeSlice at hk
  obtain ⟨e, he, hk1⟩ := wantO_iff.1 hk
  obtain ⟨es, hes, hk2⟩ := wantO_iff.1 hk1
  obtain ⟨by', hby, hk3⟩ := wantO_iff.1 hk2
  obtain ⟨z, hz, hk4'⟩ := wantO_iff.1 hk3
  by_cases hrow : isRow z = true
  · rw [if_pos hrow] at hk4'; exact h.makeTab hn hc he hz hrow hk4'
  have hk4 := hk4'
  rw [if_neg hrow] at hk4
  clear hk4'
  obtain ⟨ag, hag, hk5⟩ := wantO_iff.1 hk4
  obtain ⟨q, hq, hk6⟩ := wantO_iff.1 hk5
  obtain ⟨y, hy, hk7⟩ := wantO_iff.1 hk6
  clear hk hk1 hk2 hk3 hk4 hk5 hk6
  split at hk7
  · rename_i k m k' m'
    obtain ⟨⟨rfl, rfl, rfl, h1, h2, h3, h4, h5⟩, hK⟩ := need_iff.1 hk7
    rw [pint hn, pint hc]
    obtain ⟨ie, hie, hsz⟩ := szq_some hes
    subst hsz
    obtain ⟨i, zv, g1, g2, g3⟩ := zeq_some hz
    rw [hie] at g1; cases g1
    obtain ⟨ie2, hie2, hb⟩ := byq_some hby
    rw [hie] at hie2; cases hie2
    obtain ⟨r1, r2, r3⟩ := scals_rep (mem := σ.mem) (G := G) (St := St) (rd := rdW w) g3
    have hfz := run_scal_fz g3 hq
    have hL := h.pubCells r3 hq r1 (fz := []) (by rw [hfz]; simp)
    have hrep : repC (stF σ G St []) (rdW w) y zv.cells.toList := by
      unfold unAggV at hy
      split at hy
      · cases hy; simp only [repC]; exact hL
      · split at hy
        · rename_i c0 hc0
          cases hy
          rw [hc0] at hL
          simp only [repL] at hL
          obtain ⟨v0, r0, e0, ⟨_, p0⟩, rfl⟩ := hL
          rw [e0]; exact p0
        · cases hy
    have hrep2 : repC St (rdW w) y zv.cells.toList := repC_mono (fun b o hb => by rcases hb with hb | ⟨t, ht, _⟩; exact hb; cases ht) (fun _ _ _ => rfl) _ _ hrep
    have hzl : zv.cells.toList.length = ie.size := by rw [repC_len _ _ hrep2]; exact h4
    have hzs : zv.cells.size = ie.size := by simpa using hzl
    obtain ⟨n0, rfl⟩ := Int.eq_ofNat_of_zero_le h1
    simp only [Int.toNat_natCast] at h2 hK
    have hn0 : n0 ≤ maxBytes := Nat.le_trans (Nat.le_mul_of_pos_right n0 (by omega)) h2
    have hbb : ie.bytes * n0 ≤ 281474976710656 := by
      rw [hb]; have : by' * n0 ≤ n0 * (by' + 1) := by rw [Nat.mul_comm n0, Nat.succ_mul]; omega
      unfold maxBytes at h2; omega
    have hbb' : (ie.bytes : Int) * (n0 : Int) ≤ 281474976710656 := by
      have h6 : ((ie.bytes * n0 : Nat) : Int) ≤ 281474976710656 := by omega
      rwa [Int.natCast_mul] at h6
    have hrun := run_make (P := P) w t e ie zv (elq_some he) hie g2 .i64 .i64 (n0 : Int) (n0 : Int) (by omega) (by omega) hbb' (by unfold maxBytes at hn0; omega)
    simp only [Int.toNat_natCast] at hrun
    have hsz := size_madeCells zv.cells (n0 * ie.size)
    obtain ⟨G', own', hR, hv⟩ := h.mkArr h3 (e := e) (es := ie.size) (cap := n0) (xs := List.replicate n0 y) (cells := madeCells zv.cells (n0 * ie.size)) h5 (by simp) (by unfold maxBytes at hn0; unfold maxLen; omega) (by rw [hsz])
      ⟨by simp [hsz], fun i x hi => by
        have hin : i < n0 := by have := (List.getElem?_eq_some_iff.1 hi).1; simpa using this
        have hxy : x = y := by simp [hin] at hi; exact hi.symm
        subst hxy
        have : (((madeCells zv.cells (n0 * ie.size)).toList.take ((List.replicate n0 x).length * ie.size)).drop (i * ie.size)).take ie.size = zv.cells.toList := by
          have hle : i * ie.size + ie.size ≤ n0 * ie.size := by rw [← Nat.succ_mul]; exact Nat.mul_le_mul_right _ hin
          apply List.ext_getElem?
          intro j
          by_cases hj : j < ie.size
          · rw [List.getElem?_take_of_lt hj, List.getElem?_drop, List.getElem?_take_of_lt (by simp; omega)]
            have e1 : (i * ie.size + j) % zv.cells.size = j := by rw [hzs, Nat.mul_comm, Nat.mul_add_mod]; exact Nat.mod_eq_of_lt hj
            have hjz : j < zv.cells.size := by omega
            have hlt : i * ie.size + j < n0 * ie.size := by omega
            have e2 : (madeCells zv.cells (n0 * ie.size))[i * ie.size + j]? = some (zv.cells[(i * ie.size + j) % zv.cells.size]!) := by simp only [madeCells, Array.getElem?_map]; rw [Array.getElem?_range]; simp [hlt]
            rw [Array.getElem?_toList, e2, e1, Array.getElem?_toList]
            simp [hjz]
          · rw [List.getElem?_eq_none (by simp; omega), List.getElem?_eq_none (by omega)]
        rw [this]; exact hrep2⟩
    simp only [List.length_replicate] at hv
    exact ⟨_, _, _, hK, hrun, _, _, _, hR, hv⟩
  · exact hk7.elim
theorem repEs_take {rd : Nat → Nat → Option Value} {es : Nat} {xs : List V} {vs : List Value} (h : repEs St rd es xs vs) (n : Nat) : repEs St rd es (xs.take n) (vs.take (n * es)) := by
  obtain ⟨h1, h2⟩ := h
  refine ⟨?_, fun i x hi => ?_⟩
  · rw [List.length_take, List.length_take, h1]
    rcases Nat.le_total n xs.length with hn | hn
    · rw [Nat.min_eq_left hn, Nat.min_eq_left (Nat.mul_le_mul_right _ hn)]
    · rw [Nat.min_eq_right hn, Nat.min_eq_right (Nat.mul_le_mul_right _ hn)]
  · have hin : i < n := Classical.byContradiction fun hn => by rw [List.getElem?_eq_none (by simp; omega)] at hi; cases hi
    rw [List.getElem?_take_of_lt hin] at hi
    have := h2 i x hi
    have hle : i * es + es ≤ n * es := by rw [← Nat.succ_mul]; exact Nat.mul_le_mul_right _ hin
    rw [List.drop_take, List.take_take, Nat.min_eq_left (by omega)]
    exact this
theorem repEs_drop {rd : Nat → Nat → Option Value} {es : Nat} {xs : List V} {vs : List Value} (h : repEs St rd es xs vs) (n : Nat) : repEs St rd es (xs.drop n) (vs.drop (n * es)) := by
  obtain ⟨h1, h2⟩ := h
  refine ⟨by rw [List.length_drop, List.length_drop, h1, Nat.sub_mul], fun i x hi => ?_⟩
  rw [List.getElem?_drop] at hi
  have := h2 (n + i) x hi
  rw [List.drop_drop, ← Nat.add_mul]
  exact this

theorem RepD.arrCells (h : RepD Γ X N ds σ a w G St own) {t g es : Nat} {e : TypeId} {xs : List V} (hm : σ.mem (.a t) = .arr g e es xs) :
    0 < es ∧ ∃ vs, repEs St (rdW w) es xs vs ∧ (∀ z ∈ vs, z.oneCell' = true) ∧ ∀ blk, (G.av t).ownBlock = some blk → ∀ (j : Nat) (z : Value), vs[j]? = some z → w.cell? ⟨blk, j, none⟩ = some z := by
  obtain ⟨h0, vs, ⟨hlen, ho⟩, hl, hxs⟩ := h.arrs t g _ _ _ hm
  refine ⟨h0, vs, ⟨hl, hxs⟩, fun z hz => ?_, fun blk hblk j z hj => ?_⟩
  · obtain ⟨k, hk⟩ := List.mem_iff_getElem?.1 hz
    have hkl : k < xs.length * es := by rw [← hl]; exact (List.getElem?_eq_some_iff.1 hk).1
    have hi : k / es < xs.length := Nat.div_lt_of_lt_mul (by rw [Nat.mul_comm]; exact hkl)
    have hmem : z ∈ (vs.drop (k / es * es)).take es := by
      refine List.mem_iff_getElem?.2 ⟨k % es, ?_⟩
      rw [List.getElem?_take_of_lt (Nat.mod_lt _ h0), List.getElem?_drop, Nat.mul_comm, Nat.div_add_mod]; exact hk
    exact oneCell_of_plain (repC_plain _ _ (hxs (k / es) _ (by rw [List.getElem?_eq_getElem hi])) z hmem)
  · rcases ho with ⟨h1, h2⟩ | ⟨blk', cap, cur, h1, _, hb, hnc, hcm, hcs, hcur⟩
    · rw [h1] at hblk; cases hblk
    · rw [h1] at hblk
      simp only [Value.ownBlock, Option.some.injEq] at hblk
      subst hblk
      have : cur[j]? = some z := by rw [take_get hcur (List.getElem?_eq_some_iff.1 hj).1]; exact hj
      simp only [World.cell?, hb]; simpa using this

theorem RepD.contVals (h : RepD Γ X N ds σ a w G St own) {x : L} {u : Value} {ys : List V} {ks : List Key} {es : Nat} (hx : repLv σ.mem G St (rdW w) x u) (hc : conts σ x = some (ys, ks)) (hes : ∀ y ∈ ys, y.cells.length = es) :
    ((∃ a c, u = .slice a 0 c) ∧ ys = []) ∨ ∃ b o cap news, u = .slice (some ⟨b, o, none⟩) ys.length cap ∧ news.length = ys.length * es ∧ (∀ (j : Nat) (z : Value), news[j]? = some z → w.cell? ⟨b, o + j, none⟩ = some z) ∧ repEs St (rdW w) es ys news ∧ ∀ z ∈ news, z.oneCell' = true := by
  have ofE : ∀ {b o sz : Nat} {ys : List V}, (∀ y ∈ ys, y.cells.length = es) → repE St (rdW w) ys b sz o → ∃ news : List Value, news.length = ys.length * es ∧ (∀ (j : Nat) (z : Value), news[j]? = some z → w.cell? ⟨b, o + j, none⟩ = some z) ∧ repEs St (rdW w) es ys news ∧ ∀ z ∈ news, z.oneCell' = true := by
    intro b o sz ys
    induction ys generalizing o with
    | nil => intro _ _; exact ⟨[], by simp, by simp, ⟨by simp, by simp⟩, by simp⟩
    | cons y ys ih =>
      intro hy hE
      simp only [repE] at hE
      obtain ⟨⟨vs, h1, h2, h3⟩, hE⟩ := hE
      have hl := repC_len _ _ h3
      have hyl := hy y (by simp)
      have hsz : sz = es := by omega
      subst hsz
      obtain ⟨news, n1, n2, ⟨n3, n4⟩, n5⟩ := ih (fun z hz => hy z (List.mem_cons_of_mem _ hz)) hE
      refine ⟨vs ++ news, by simp [n1, h1, Nat.succ_mul]; omega, fun j z hj => ?_, ⟨by simp [n1, h1, Nat.succ_mul]; omega, fun i x hi => ?_⟩, fun z hz => ?_⟩
      · by_cases hjl : j < vs.length
        · rw [List.getElem?_append_left hjl] at hj
          exact (cellsAt_get.1 h2 j z hj).1
        · rw [List.getElem?_append_right (by omega)] at hj
          have := n2 _ z hj
          rw [h1] at this hjl
          have e : o + sz + (j - sz) = o + j := by omega
          rwa [e] at this
      · cases i with
        | zero => simp only [List.getElem?_cons_zero, Option.some.injEq] at hi; subst hi; rw [Nat.zero_mul, List.drop_zero, List.take_left' h1]; exact h3
        | succ i =>
          have e : (i + 1) * sz = vs.length + i * sz := by rw [h1, Nat.succ_mul]; omega
          rw [e, ← List.drop_drop, List.drop_left]
          exact n4 i x (by simpa using hi)
      · rcases List.mem_append.1 hz with hz | hz
        · exact oneCell_of_plain (repC_plain _ _ h3 z hz)
        · exact n5 z hz
  unfold conts at hc
  split at hc
  · simp only [Option.some.injEq, Prod.mk.injEq] at hc
    obtain ⟨rfl, rfl⟩ := hc
    rcases psl hx with ⟨rfl, a, c, rfl⟩ | ⟨b, o, cap, sz, rfl, _, hE⟩
    · exact .inl ⟨⟨a, c, rfl⟩, rfl⟩
    · obtain ⟨news, n1, n2, n3, n4⟩ := ofE hes hE
      exact .inr ⟨b, o, cap, news, rfl, n1, n2, n3, n4⟩
  · simp only [Option.some.injEq, Prod.mk.injEq] at hc
    obtain ⟨rfl, rfl⟩ := hc
    simp only [repLv] at hx
    exact .inl ⟨⟨_, _, hx⟩, rfl⟩
  · simp only [Option.some.injEq, Prod.mk.injEq] at hc
    obtain ⟨rfl, rfl⟩ := hc
    simp only [repLv] at hx
    obtain ⟨a, rfl⟩ := hx
    exact .inl ⟨⟨_, _, rfl⟩, rfl⟩
  · simp only [Option.some.injEq, Prod.mk.injEq] at hc
    obtain ⟨rfl, rfl⟩ := hc
    simp only [repLv] at hx
    obtain ⟨a, c, rfl, _⟩ := hx
    exact .inl ⟨⟨_, _, rfl⟩, rfl⟩
  · rename_i t g i k
    obtain ⟨⟨⟨e, es'⟩, xs⟩, hcu, hp⟩ := Option.map_eq_some_iff.1 hc
    simp only [Prod.mk.injEq] at hp
    obtain ⟨rfl, rfl⟩ := hp
    have hm := curA_some hcu
    simp only at hm
    simp only [repLv] at hx
    obtain ⟨g', e1, es1, xs1, p1, p2, p3⟩ := hx
    rw [hm] at p1; cases p1
    obtain ⟨q1, q2, base, c, rfl, q3⟩ := p3 rfl
    have hlen : ((xs.take k).drop i).length = k - i := by simp; omega
    by_cases hik : i < k
    · obtain ⟨blk, r1, rfl⟩ := q3 hik
      obtain ⟨h0, vs, hE, hone, hcell⟩ := h.arrCells hm
      have hyi : xs[i]? = some (xs[i]'(by omega)) := List.getElem?_eq_getElem _
      have hee : es' = es := by
        have p1 := repC_len _ _ (hE.2 i _ hyi)
        have p2 := hes (xs[i]'(by omega)) (List.mem_iff_getElem?.2 ⟨0, by rw [List.getElem?_drop, List.getElem?_take_of_lt (by omega)]; exact hyi⟩)
        have : i * es' + es' ≤ vs.length := by rw [hE.1, ← Nat.succ_mul]; exact Nat.mul_le_mul_right _ (by omega)
        simp at p1; omega
      subst hee
      have hE2 := repEs_drop (repEs_take hE k) i
      refine .inr ⟨blk, i * es', c, (vs.take (k * es')).drop (i * es'), by rw [hlen], hE2.1, fun j z hj => ?_, hE2, fun z hz => hone z (List.mem_of_mem_take (List.mem_of_mem_drop hz))⟩
      rw [List.getElem?_drop] at hj
      have hlt : i * es' + j < k * es' := Classical.byContradiction fun hn => by rw [List.getElem?_eq_none (by simp; omega)] at hj; cases hj
      rw [List.getElem?_take_of_lt hlt] at hj
      exact hcell blk r1 _ z hj
    · have e0 : k - i = 0 := by omega
      exact .inl ⟨⟨base, c, by rw [e0]⟩, List.eq_nil_of_length_eq_zero (by rw [hlen]; exact e0)⟩
  · rename_i t g
    obtain ⟨⟨⟨e, es'⟩, xs⟩, hcu, hp⟩ := Option.map_eq_some_iff.1 hc
    simp only [Prod.mk.injEq] at hp
    obtain ⟨rfl, rfl⟩ := hp
    have hm := curA_some hcu
    have hv := h.arrVal hm hx
    obtain ⟨h0, vs, ⟨hlen, ho⟩, hl, hxs⟩ := h.arrs t g _ _ _ hm
    simp only at hl hxs hlen ho
    rcases ho with ⟨h1, h2⟩ | ⟨blk, cap, cur, h1, _, hb, hnc, hcm, hcs, hcur⟩
    · exact .inl ⟨⟨_, _, by rw [hv, h1]⟩, List.eq_nil_of_length_eq_zero h2⟩
    · by_cases hnil : xs = []
      · subst hnil
        exact .inr ⟨blk, 0, cap, [], by rw [hv, h1], by simp, by simp, ⟨by simp, by simp⟩, by simp⟩
      · obtain ⟨y, ys, rfl⟩ := List.exists_cons_of_ne_nil hnil
        have hee : es' = es := by
          have p1 := repC_len _ _ (hxs 0 y rfl)
          have p2 := hes y (by simp)
          have : es' ≤ vs.length := by rw [hl]; simp [Nat.succ_mul]
          simp at p1; omega
        subst hee
        refine .inr ⟨blk, 0, cap, vs, by rw [hv, h1], hl, fun j z hj => ?_, ⟨hl, hxs⟩, fun z hz => ?_⟩
        · have : cur[j]? = some z := by rw [take_get hcur (List.getElem?_eq_some_iff.1 hj).1]; exact hj
          simp only [World.cell?, hb, Nat.zero_add]; simpa using this
        · obtain ⟨k, hk⟩ := List.mem_iff_getElem?.1 hz
          have hkl : k < (y :: ys).length * es' := by rw [← hl]; exact (List.getElem?_eq_some_iff.1 hk).1
          have hi : k / es' < (y :: ys).length := Nat.div_lt_of_lt_mul (by rw [Nat.mul_comm]; exact hkl)
          have hmem : z ∈ (vs.drop (k / es' * es')).take es' := by
            refine List.mem_iff_getElem?.2 ⟨k % es', ?_⟩
            rw [List.getElem?_take_of_lt (Nat.mod_lt _ h0), List.getElem?_drop, Nat.mul_comm, Nat.div_add_mod]; exact hk
          exact oneCell_of_plain (repC_plain _ _ (hxs (k / es') _ (by rw [List.getElem?_eq_getElem hi])) z hmem)
  · cases hc
end Go.Vm

namespace Go.Vm
variable {Γ : Nat → Option (List V)} {X : Ctx} {N : Nat} {ds : List Deferred} {σ : VS} {a : Act} {w w' : World} {G G' : GG} {St St' : Nat → Nat → Prop} {own : Nat → Prop} {P : Program} {K : Eff → Prop}

theorem run_append_where (t ty e : TypeId) (i : TypeInfo) (z : Value) (ht : P.underlying t = some (.slice e)) (hi : P.info? e = some i) (hz : i.zero = some z) (hzs : z.cells.size = i.size)
    (v : Value) (n : Nat) (xs : List Value) (hown : w.ownsRow 0 e i.size v n xs) (b : Addr) (m c : Nat) (news : List Value) (hl : news.length = m * i.size) (hnews : ∀ j u, news[j]? = some u → w.cell? (b.add j) = some u) (h1 : ∀ u ∈ news, u.oneCell' = true)
    (h63 : n + m ≤ maxLen) (hbytes : (n + m) * i.bytes ≤ 140737488355328) :
    ∃ v' w', (Builtin.append_ #[t, t] ty #[v, .slice (some b) m c]).run P w = .ok v' w' ∧ w'.ownsRow 0 e i.size v' (n + m) (xs ++ news) ∧
      ((w.grownBy w' none ∧ ∀ k, v'.ownBlock = some k → w.heap.size ≤ k ∧ k < w'.heap.size) ∨ (w.grownBy w' v.ownBlock ∧ v'.ownBlock = v.ownBlock)) := by
  have hsmall : n + m ≤ 9223372036854775807 := by simp only [maxLen] at h63; omega
  have hlen : (xs ++ news).length = (n + m) * i.size := by rw [List.length_append, hown.1, hl, Nat.add_mul]
  have anew : ∀ old : Nat, (w.drew.alloc (.cells (xs.toArray ++ news.toArray ++ Builtin.zeroCells z.cells (grownCap w (n + m) old e - (n + m))) e)).ownsRow 0 e i.size (.slice (some ⟨w.heap.size, 0, none⟩) (n + m) (grownCap w (n + m) old e)) (n + m) (xs ++ news) := by
    intro old
    have hge := grownCap_ge w (n + m) old e
    refine ⟨hlen, .inr ⟨w.heap.size, _, _, rfl, Nat.zero_le _, heap_alloc_new w.drew _, hge, grownCap_le_maxLen w (n + m) old e h63, ?_, ?_⟩⟩
    · have : (xs.toArray ++ news.toArray).size = (n + m) * i.size := by simpa using hlen
      rw [Array.size_append, this, size_zeroCells, hzs, ← Nat.add_mul, Nat.add_sub_cancel' hge]
    · rw [Array.toList_append]
      have : (xs.toArray ++ news.toArray).toList = xs ++ news := by simp
      rw [this, List.take_left' hlen]
  have isnew : ∀ (o : Obj), w.grownBy (w.drew.alloc o) none ∧ ∀ (l c k : Nat), Value.ownBlock (.slice (some ⟨w.heap.size, 0, none⟩) l c) = some k → w.heap.size ≤ k ∧ k < (w.drew.alloc o).heap.size := fun o =>
    ⟨⟨rfl, rfl, rfl, by simp, fun k hk _ => RowKit.Below.heap_alloc w.drew o k hk⟩, fun l c k hk => by simp only [Value.ownBlock, Option.some.injEq] at hk; subst hk; simp⟩
  rcases hown.2 with ⟨rfl, rfl⟩ | ⟨g, cap, cur, rfl, _, hg, hnc, hcm, hcs, htake⟩
  · obtain rfl : xs = [] := List.eq_nil_of_length_eq_zero (by simpa using hown.1)
    by_cases hm : m = 0
    · subst hm
      obtain rfl : news = [] := List.eq_nil_of_length_eq_zero (by simpa using hl)
      refine ⟨.slice none 0 0, w, ?_, World.ownsRow_nil w 0 e i.size, .inr ⟨⟨rfl, rfl, rfl, Nat.le_refl _, fun _ _ _ => rfl⟩, rfl⟩⟩
      simp [Builtin.append_, run_underlying ht, sizeOf, typeInfo, hi, Builtin.lenOf, Builtin.firstCells, loadCells, loadCellsFrom]
    · have hr := run_append_nil (P := P) w t ty e i z ht hi hz b m c news hl hnews (by omega) (by omega) (by have hb := hbytes; simp only [Nat.zero_add] at hb; omega)
      have ha := anew 0
      simp only [Nat.zero_add, List.nil_append, Array.empty_append] at ha ⊢
      exact ⟨_, _, hr, ha, .inl ⟨(isnew _).1, (isnew _).2 _ _⟩⟩
  · by_cases hroom : n + m ≤ cap
    · have hfit : n * i.size + news.length ≤ cur.size := by rw [hl, hcs, ← Nat.add_mul]; exact Nat.mul_le_mul_right _ hroom
      have hr := run_append_room (P := P) w t ty e i ht hi g n cap cur hg b m c news hl hnews h1 hroom hfit
      refine ⟨_, _, hr, ⟨hlen, .inr ⟨g, cap, _, rfl, Nat.zero_le _, setRow_heap w g cur _ e _ hg, hroom, hcm, ?_, ?_⟩⟩, .inr ⟨⟨rfl, rfl, rfl, by simp, fun k _ hk => setRow_other w g k _ fun e0 => hk (by simp [Value.ownBlock, e0])⟩, rfl⟩⟩
      · simp only [List.size_toArray, List.length_append, List.length_take, List.length_drop, Array.length_toList]; omega
      · rw [htake, ← hlen]; exact List.take_left
    · have hr := run_append_grow (P := P) w t ty e i z ht hi hz ⟨g, 0, none⟩ n cap xs hown.1 (hown.cells (g := g) rfl) b m c news hl hnews (by omega) (by omega) (growslice_fits (by omega) hbytes)
      exact ⟨_, _, hr, anew cap, .inl ⟨(isnew _).1, (isnew _).2 _ _⟩⟩

theorem repEs_append {rd : Nat → Nat → Option Value} {es : Nat} {xs ys : List V} {us vs : List Value} (h : repEs St rd es xs us) (k : repEs St rd es ys vs) : repEs St rd es (xs ++ ys) (us ++ vs) := by
  obtain ⟨h1, h2⟩ := h
  obtain ⟨k1, k2⟩ := k
  refine ⟨by simp [h1, k1, Nat.add_mul], fun i x hi => ?_⟩
  by_cases hx : i < xs.length
  · rw [List.getElem?_append_left hx] at hi
    have hle : i * es + es ≤ us.length := by rw [h1, ← Nat.succ_mul]; exact Nat.mul_le_mul_right _ hx
    rw [List.drop_append_of_le_length (by omega), List.take_append_of_le_length (by simp; omega)]
    exact h2 i x hi
  · rw [List.getElem?_append_right (by omega)] at hi
    have e : i * es = us.length + (i - xs.length) * es := by rw [h1, ← Nat.add_mul]; congr 1; omega
    rw [e, ← List.drop_drop, List.drop_left]
    exact k2 _ x hi

theorem run_append_nothing (w : World) (base : Nat) (t ty e : TypeId) (i : TypeInfo) (size : Nat) (ht : P.underlying t = some (.slice e)) (hi : P.info? e = some i)
    (v : Value) (n : Nat) (xs : List Value) (hown : w.ownsRow base e size v n xs) (a : Option Addr) (c : Nat) :
    (Builtin.append_ #[t, t] ty #[v, .slice a 0 c]).run P w = .ok v w := by
  rcases hown.2 with ⟨rfl, rfl⟩ | ⟨g, cap, cur, rfl, _, _, hnc, _⟩ <;> cases a
  · simp [Builtin.append_, run_underlying ht, sizeOf, typeInfo, hi, Builtin.lenOf, Builtin.firstCells]
  · simp [Builtin.append_, run_underlying ht, sizeOf, typeInfo, hi, Builtin.lenOf, Builtin.firstCells, loadCells, loadCellsFrom]
  · simp [Builtin.append_, run_underlying ht, sizeOf, typeInfo, hi, Builtin.lenOf, Builtin.firstCells, hnc, storeCells]
  · simp [Builtin.append_, run_underlying ht, sizeOf, typeInfo, hi, Builtin.lenOf, Builtin.firstCells, hnc, storeCells, loadCells, loadCellsFrom]

theorem RepD.app (h : RepD Γ X N ds σ a w G St own) {d : Nat} {t ty : TypeId} {s x : L} {u v : Value} (hs : repLv σ.mem G St (rdW w) s u) (hx : repLv σ.mem G St (rdW w) x v) (hk : vappend P σ d t s x K) :
    Makes P Γ X N ds σ a w (Builtin.append_ #[t, t] ty #[u, v]) K := by
  unfold vappend at hk
  obtain ⟨e, he, hk1⟩ := wantO_iff.1 hk
  obtain ⟨es, hes, hk2⟩ := wantO_iff.1 hk1
  obtain ⟨by', hby, hk3⟩ := wantO_iff.1 hk2
  obtain ⟨z, hz, hk4⟩ := wantO_iff.1 hk3
  obtain ⟨⟨ys, ks⟩, hc, hk5⟩ := wantO_iff.1 hk4
  obtain ⟨⟨hzl, h0⟩, hk6⟩ := need_iff.1 hk5
  clear hk hk1 hk2 hk3 hk4 hk5
  obtain ⟨ie, hie, hsz⟩ := szq_some hes
  subst hsz
  obtain ⟨i, zv, g1, g2, g3⟩ := zeq_some hz
  rw [hie] at g1; cases g1
  obtain ⟨ie2, hie2, hb⟩ := byq_some hby
  rw [hie] at hie2; cases hie2
  obtain ⟨r1, r2, r3⟩ := scals_rep (mem := σ.mem) (G := G) (St := St) (rd := rdW w) g3
  have hzs : zv.cells.size = ie.size := by have := repLs_length r1; simp at this; omega
  have ht := elq_some he
  -- what an append to 'n' elements needs
  have bounds : ∀ n m : Nat, (n + m) * (by' + 1) ≤ maxBytes → n + m ≤ maxLen ∧ (n + m) * ie.bytes ≤ 140737488355328 := fun n m hnm => by
    rw [hb]
    have p1 : n + m ≤ maxBytes := Nat.le_trans (Nat.le_mul_of_pos_right _ (by omega)) hnm
    have p2 : (n + m) * by' ≤ (n + m) * (by' + 1) := Nat.mul_le_mul_left _ (by omega)
    unfold maxBytes at p1 hnm; unfold maxLen; omega
  -- the append itself
  have app : ∀ (u : Value) (xs : List V) (vs : List Value), w.ownsRow 0 e ie.size u xs.length vs → repEs St (rdW w) ie.size xs vs → (∀ y ∈ ys, y.cells.length = ie.size) → (xs.length + ys.length) * (by' + 1) ≤ maxBytes →
      ∃ v' w' vs2, (Builtin.append_ #[t, t] ty #[u, v]).run P w = .ok v' w' ∧ w'.ownsRow 0 e ie.size v' (xs ++ ys).length (vs ++ vs2) ∧ repEs St (rdW w) ie.size (xs ++ ys) (vs ++ vs2) ∧
        ((w.grownBy w' none ∧ ∀ k, v'.ownBlock = some k → w.heap.size ≤ k ∧ k < w'.heap.size) ∨ (w.grownBy w' u.ownBlock ∧ v'.ownBlock = u.ownBlock)) := by
    intro u xs vs ho hE hye hbd
    obtain ⟨b1, b2⟩ := bounds _ _ hbd
    rcases h.contVals hx hc hye with ⟨⟨a0, c0, rfl⟩, rfl⟩ | ⟨b, o, cap, news, rfl, n1, n2, n3, n4⟩
    · refine ⟨u, w, [], run_append_nothing w 0 t ty e ie ie.size ht hie u _ _ ho a0 c0, by simpa using ho, by simpa using hE, .inr ⟨⟨rfl, rfl, rfl, Nat.le_refl _, fun _ _ _ => rfl⟩, rfl⟩⟩
    · obtain ⟨v', w', hr, ho', hw⟩ := run_append_where (P := P) (w := w) t ty e ie zv ht hie g2 hzs u xs.length vs ho ⟨b, o, none⟩ ys.length cap news n1 (fun j z hj => by rw [add_addr]; exact n2 j z hj) n4 b1 b2
      exact ⟨v', w', news, hr, by rw [List.length_append]; exact ho', repEs_append hE n3, hw⟩
  -- a new array
  have fin : ∀ (u v' : Value) (w' : World) (vs2 : List Value), (Builtin.append_ #[t, t] ty #[u, v]).run P w = .ok v' w' → w'.ownsRow 0 e ie.size v' ys.length vs2 → repEs St (rdW w) ie.size ys vs2 → w.grownBy w' none → (∀ k, v'.ownBlock = some k → w.heap.size ≤ k ∧ k < w'.heap.size) → fresh σ d = true → K ⟨.arr d 0, .b d :: .a d :: ks, [(.a d, .arr 0 e ie.size ys), (.f d, .none)]⟩ →
      Makes P Γ X N ds σ a w (Builtin.append_ #[t, t] ty #[u, v]) K := by
    intro u v' w' vs2 hr ho hE hw hnew hf hK
    have h' := h.ext (w' := w') ⟨hw.os, hw.tape, hw.output, hw.size, fun k hk _ => hw.block k hk (by simp)⟩
    have hrd : ∀ b o, St b o → rdW w' b o = rdW w b o := fun b o hb => rdW_of_block (hw.block b (h.stlt b o hb) (by simp))
    have hn := h'.newArr (d := d) hf h0 ho (repEs_mono (fun _ _ h => h) hrd hE) (fun b hb => by
      obtain ⟨p1, p2⟩ := hnew b hb
      exact ⟨.inr ⟨p1, p2⟩, fun t ht => by have := h.blk_lt ht; omega, fun o ho => by have := h.stlt _ o ho; omega⟩)
    refine ⟨_, v', w', hK, hr, _, _, _, hn, ?_⟩
    simp only [repLv]
    refine ⟨0, e, ie.size, ys, by simp [VS.upd, look], Nat.le_refl _, ?_, fun _ => by simp⟩
    rcases ho.2 with ⟨p1, _⟩ | ⟨blk, cap, cur, p1, _⟩ <;> rw [p1] <;> rfl
  split at hk6
  · rename_i t0 g
    obtain ⟨⟨⟨e', es'⟩, xs⟩, hcu, hk⟩ := wantO_iff.1 hk6
    obtain ⟨⟨q1, q2, q3, q4⟩, hK⟩ := need_iff.1 hk
    have hm := curA_some hcu
    simp only at q1 q2 hm q4
    subst q1; subst q2
    have hv := h.arrVal hm hs
    obtain ⟨_, vs, ho, hE⟩ := h.arrs t0 g _ _ _ hm
    obtain ⟨v', w', vs2, hr, ho', hE', hw⟩ := app (G.av t0) xs vs ho hE q3 q4
    have hrow : w.grownBy w' (G.av t0).ownBlock := by
      rcases hw with ⟨hw, _⟩ | ⟨hw, _⟩
      · exact ⟨hw.os, hw.tape, hw.output, hw.size, fun k hk _ => hw.block k hk (by simp)⟩
      · exact hw
    have hst : ∀ b o, St b o → rdW w' b o = rdW w b o := fun b o hb => by
      rcases hw with ⟨hw, _⟩ | ⟨hw, hbl⟩
      · exact rdW_of_block (hw.block b (h.stlt b o hb) (by simp))
      · by_cases hbb : (G.av t0).ownBlock = some b
        · have hlo := (h.sarr t0 g _ _ _ b hm hbb).2 o
          have hlt : o < xs.length * ie.size := Classical.byContradiction fun hn => hlo (by omega) hb
          rcases ho.2 with ⟨p1, _⟩ | ⟨blk, cap, cur, p1, _, p2, _, _, _, p3⟩
          · rw [p1] at hbb; cases hbb
          rcases ho'.2 with ⟨p1', _⟩ | ⟨blk', cap', cur', p1', _, p2', _, _, _, p3'⟩
          · rw [p1', hbb] at hbl; cases hbl
          rw [p1] at hbb; rw [p1, p1'] at hbl
          simp only [Value.ownBlock, Option.some.injEq] at hbb hbl
          subst hbb; subst hbl
          have hlen1 := ho.1
          have l1 : cur[o]? = vs[o]? := take_get p3 (by omega)
          have l2 : cur'[o]? = (vs ++ vs2)[o]? := take_get p3' (by simp; omega)
          rw [List.getElem?_append_left (by omega)] at l2
          simp only [rdW, World.cell?, p2, p2', l1, l2]
        · exact rdW_of_block (hw.block b (h.stlt b o hb) fun e0 => hbb e0.symm)
    have hupd := h.updArr (g2 := g + 1) (xs2 := xs ++ ys) hm hrow ho' hE' hst (by simp) (.inl (by omega)) (fun b hb => by
      rcases hw with ⟨_, hw⟩ | ⟨_, hbl⟩
      · exact .inr (hw b hb)
      · exact .inl (hbl ▸ hb))
    refine ⟨_, v', w', hK, by rw [hv]; exact hr, _, _, _, hupd, ?_⟩
    simp only [repLv]
    refine ⟨g + 1, e', ie.size, xs ++ ys, by simp [VS.upd, look], Nat.le_refl _, ?_, fun _ => by simp⟩
    rcases ho'.2 with ⟨p1, _⟩ | ⟨blk, cap, cur, p1, _⟩ <;> rw [p1] <;> rfl
  · simp only [repLv] at hs
    subst hs
    obtain ⟨⟨hf, hye, hbd⟩, hK⟩ := need_iff.1 hk6
    obtain ⟨v', w', vs2, hr, ho, hE, hw⟩ := app (.slice none 0 0) [] [] (World.ownsRow_nil w 0 e ie.size) ⟨by simp, by simp⟩ hye (by simpa using hbd)
    simp only [List.nil_append] at ho hE
    refine fin _ v' w' vs2 hr ho hE ?_ (fun k hk => ?_) hf hK
    · rcases hw with ⟨hw, _⟩ | ⟨hw, _⟩ <;> exact hw
    · rcases hw with ⟨_, hw⟩ | ⟨_, hw⟩
      · exact hw k hk
      · rw [hw] at hk; cases hk
  · obtain ⟨c1, c2⟩ := hk6
    simp only [repLv] at hs
    by_cases hn : ys = []
    · have hK := c1 hn
      subst hn
      refine Gives.makes h ⟨_, u, hK, rfl, ?_, by simp only [repLv]; exact hs⟩
      obtain ⟨b', rfl⟩ := hs
      rcases h.contVals hx hc (es := ie.size) (by simp) with ⟨⟨_ | a0, c0, rfl⟩, _⟩ | ⟨b, o, cap, news, rfl, _⟩ <;> cases b' <;>
        simp [Builtin.append_, run_underlying ht, sizeOf, typeInfo, hie, Builtin.lenOf, Builtin.firstCells, loadCells, loadCellsFrom, storeCells]
    · obtain ⟨⟨hf, hye, hbd⟩, hK⟩ := need_iff.1 (c2 hn)
      obtain ⟨b1, b2⟩ := bounds 0 ys.length (by simpa using hbd)
      obtain ⟨b', rfl⟩ := hs
      rcases b' with _ | b'
      · obtain ⟨v', w', vs2, hr, ho, hE, hw⟩ := app (.slice none 0 0) [] [] (World.ownsRow_nil w 0 e ie.size) ⟨by simp, by simp⟩ hye (by simpa using hbd)
        simp only [List.nil_append] at ho hE
        refine fin _ v' w' vs2 hr ho hE ?_ (fun k hk => ?_) hf hK
        · rcases hw with ⟨hw, _⟩ | ⟨hw, _⟩ <;> exact hw
        · rcases hw with ⟨_, hw⟩ | ⟨_, hw⟩
          · exact hw k hk
          · rw [hw] at hk; cases hk
      · rcases h.contVals hx hc hye with ⟨_, hy⟩ | ⟨b, o, cap, news, rfl, n1, n2, n3, n4⟩
        · exact (hn hy).elim
        have hlen : 0 < ys.length := List.length_pos_iff.2 hn
        have hr := run_append_grow (P := P) w t ty e ie zv ht hie g2 b' 0 0 [] (by simp) (by simp) ⟨b, o, none⟩ ys.length cap news n1 (fun j z hj => by rw [add_addr]; exact n2 j z hj) (by omega) (by unfold maxLen at b1; omega) (growslice_fits (by omega) b2)
        simp only [Nat.zero_add, List.nil_append, Array.empty_append] at hr
        have hge := grownCap_ge w ys.length 0 e
        refine fin _ _ _ news hr ⟨n1, .inr ⟨w.heap.size, _, _, rfl, Nat.zero_le _, heap_alloc_new w.drew _, hge, grownCap_le_maxLen w ys.length 0 e (by omega), ?_, ?_⟩⟩ n3 ⟨rfl, rfl, rfl, by simp, fun k hk _ => RowKit.Below.heap_alloc w.drew _ k hk⟩ (fun k hk => by simp only [Value.ownBlock, Option.some.injEq] at hk; subst hk; simp) hf hK
        · rw [Array.size_append, size_zeroCells, hzs, List.size_toArray, n1, ← Nat.add_mul, Nat.add_sub_cancel' hge]
        · rw [Array.toList_append, List.toList_toArray, List.take_left' n1]
  · exact hk6.elim
end Go.Vm

namespace Go.Vm
variable {Γ : Nat → Option (List V)} {X : Ctx} {N : Nat} {ds : List Deferred} {σ : VS} {a : Act} {w w' : World} {G G' : GG} {St St' : Nat → Nat → Prop} {own : Nat → Prop} {P : Program} {K : Eff → Prop}

theorem lens_ok (h : RepD Γ X N ds σ a w G St own) {x : L} {u : Value} {n : Nat} {ks : List Key} (hx : repLv σ.mem G St (rdW w) x u) (hl : lens σ x = some (n, ks)) : (∃ s, u = .string s ∧ n = s.size ∧ x = .p (.s s)) ∨ (∃ b c, u = .slice b n c) ∧ ∀ s, x ≠ .p (.s s) := by
  unfold lens at hl
  split at hl
  · rename_i s
    simp only [Option.some.injEq, Prod.mk.injEq] at hl
    obtain ⟨rfl, rfl⟩ := hl
    exact .inl ⟨s, pstr hx, rfl, rfl⟩
  · rename_i t
    obtain ⟨n', hb, hp⟩ := Option.map_eq_some_iff.1 hl
    simp only [Prod.mk.injEq] at hp
    obtain ⟨rfl, rfl⟩ := hp
    simp only [repLv] at hx
    obtain ⟨m, hm, rfl⟩ := hx
    rw [boxN_some hb] at hm; cases hm
    exact .inr ⟨⟨_, _, rfl⟩, fun s e => by cases e⟩
  · rename_i hns hns2
    obtain ⟨⟨xs, k⟩, hc, hp⟩ := Option.map_eq_some_iff.1 hl
    simp only [Prod.mk.injEq] at hp
    obtain ⟨rfl, rfl⟩ := hp
    refine .inr ⟨?_, fun s e => hns s e⟩
    unfold conts at hc
    split at hc
    · simp only [Option.some.injEq, Prod.mk.injEq] at hc
      obtain ⟨rfl, rfl⟩ := hc
      rcases psl hx with ⟨rfl, a, c, rfl⟩ | ⟨b, o, cap, sz, rfl, _, _⟩
      · exact ⟨a, c, rfl⟩
      · exact ⟨_, _, rfl⟩
    · simp only [Option.some.injEq, Prod.mk.injEq] at hc
      obtain ⟨rfl, rfl⟩ := hc
      simp only [repLv] at hx
      exact ⟨none, 0, hx⟩
    · simp only [Option.some.injEq, Prod.mk.injEq] at hc
      obtain ⟨rfl, rfl⟩ := hc
      simp only [repLv] at hx
      obtain ⟨a, rfl⟩ := hx
      exact ⟨a, 0, rfl⟩
    · simp only [Option.some.injEq, Prod.mk.injEq] at hc
      obtain ⟨rfl, rfl⟩ := hc
      simp only [repLv] at hx
      obtain ⟨a, c, rfl, _⟩ := hx
      exact ⟨a, c, rfl⟩
    · rename_i t g i j
      obtain ⟨⟨⟨e, es⟩, xs'⟩, hcu, hp⟩ := Option.map_eq_some_iff.1 hc
      simp only [Prod.mk.injEq] at hp
      obtain ⟨rfl, rfl⟩ := hp
      have hm := curA_some hcu
      simp only at hm
      simp only [repLv] at hx
      obtain ⟨g', e1, es1, xs1, p1, p2, p3⟩ := hx
      rw [hm] at p1; cases p1
      obtain ⟨q1, q2, base, c, rfl, q3⟩ := p3 rfl
      exact ⟨base, c, by congr 1; simp; omega⟩
    · rename_i t g
      obtain ⟨⟨⟨e, es⟩, xs'⟩, hcu, hp⟩ := Option.map_eq_some_iff.1 hc
      simp only [Prod.mk.injEq] at hp
      obtain ⟨rfl, rfl⟩ := hp
      have hm := curA_some hcu
      have hv := h.arrVal hm hx
      obtain ⟨_, vs, ho, _⟩ := h.arrs t g _ _ _ hm
      rcases ho.2 with ⟨p1, p2⟩ | ⟨blk, cap, cur, p1, _⟩
      · exact ⟨none, 0, by rw [hv, p1]; simp only at p2; rw [p2]⟩
      · exact ⟨_, _, by rw [hv, p1]⟩
    · cases hc

theorem RepD.len (h : RepD Γ X N ds σ a w G St own) {t ty : TypeId} {x : L} {u : Value} (hx : repLv σ.mem G St (rdW w) x u) (hk : vlen σ P t x K) : Gives P σ G St w (Builtin.len_ #[t] ty #[u]) K := by
  unfold vlen at hk
  split at hk
  · rename_i n e hq
    exact .mk hk rfl (u := .int .i64 n) (by simp [Builtin.len_, run_underlying (arq_some hq), goInt]) mk_int
  · obtain ⟨hc, hk⟩ := need_iff.1 hk
    obtain ⟨⟨n, ks⟩, hl, hK⟩ := wantO_iff.1 hk
    refine .mk hK rfl (u := .int .i64 n) ?_ mk_int
    rcases lens_ok h hx hl with ⟨s, rfl, rfl, rfl⟩ | ⟨⟨b, c, rfl⟩, hns⟩
    · rcases hc with ⟨h1, _⟩ | ⟨_, h2⟩
      · have hu : P.underlying t = some .string := by unfold isStr at h1; split at h1 <;> first | assumption | cases h1
        simp [Builtin.len_, run_underlying hu, goInt]
      · exact h2.elim
    · rcases hc with ⟨_, h2⟩ | ⟨h1, _⟩
      · split at h2
        · exact (hns _ rfl).elim
        · exact h2.elim
      · obtain ⟨e, he⟩ := Option.isSome_iff_exists.1 h1
        simp [Builtin.len_, run_underlying (elq_some he), goInt]

theorem max_run {mem : Key → M} {rd : Nat → Nat → Option Value} {k : IntKind} : ∀ {ls : List L} {vs : List Value} {x : Int} {v : V}, repLs mem G St rd ls vs → maxI k x ls = some v → ∀ w : World, ∃ n, v = .i k n ∧ (vs.foldlM Builtin.max2 (.int k x)).run P w = .ok (.int k n) w
  | [], vs, x, v, h, hm, w => by simp only [repLs] at h; subst h; simp only [maxI, Option.some.injEq] at hm; exact ⟨x, hm.symm, by simp⟩
  | l :: ls, vs, x, v, h, hm, w => by
    simp only [repLs] at h
    obtain ⟨u, r, rfl, h1, h2⟩ := h
    unfold maxI at hm
    split at hm
    · rename_i e; cases e
    · rename_i k' y r' e
      cases e
      split at hm
      · rename_i hkk
        subst hkk
        rw [pint h1]
        obtain ⟨n, e1, e2⟩ := max_run h2 hm w
        exact ⟨n, e1, by simp only [List.foldlM_cons, Sem.run_bind, Builtin.max2, Sem.run_pure, Result.andThen_ok]; exact e2⟩
      · cases hm
    · cases hm
theorem min_run {mem : Key → M} {rd : Nat → Nat → Option Value} {k : IntKind} : ∀ {ls : List L} {vs : List Value} {x : Int} {v : V}, repLs mem G St rd ls vs → minI k x ls = some v → ∀ w : World, ∃ n, v = .i k n ∧ (vs.foldlM Builtin.min2 (.int k x)).run P w = .ok (.int k n) w
  | [], vs, x, v, h, hm, w => by simp only [repLs] at h; subst h; simp only [minI, Option.some.injEq] at hm; exact ⟨x, hm.symm, by simp⟩
  | l :: ls, vs, x, v, h, hm, w => by
    simp only [repLs] at h
    obtain ⟨u, r, rfl, h1, h2⟩ := h
    unfold minI at hm
    split at hm
    · rename_i e; cases e
    · rename_i k' y r' e
      cases e
      split at hm
      · rename_i hkk
        subst hkk
        rw [pint h1]
        obtain ⟨n, e1, e2⟩ := min_run h2 hm w
        exact ⟨n, e1, by simp only [List.foldlM_cons, Sem.run_bind, Builtin.min2, Sem.run_pure, Result.andThen_ok]; exact e2⟩
      · cases hm
    · cases hm

theorem RepD.minmax {mx : Bool} {ats : Array TypeId} {ty : TypeId} {ls : List L} {vs : List Value} (hx : repLs σ.mem G St (rdW w) ls vs) (hk : vminmax mx ls K) : Gives P σ G St w (if mx then Builtin.max_ ats ty vs.toArray else Builtin.min_ ats ty vs.toArray) K := by
  unfold vminmax at hk
  split at hk
  · rename_i k x r
    obtain ⟨v, hv, hK⟩ := wantO_iff.1 hk
    simp only [repLs] at hx
    obtain ⟨u, r', rfl, h1, h2⟩ := hx
    rw [pint h1]
    cases mx with
    | true =>
      obtain ⟨n, rfl, hr⟩ := max_run (P := P) h2 hv w
      exact .mk hK rfl (by simpa [Builtin.max_] using hr) mk_int
    | false =>
      obtain ⟨n, rfl, hr⟩ := min_run (P := P) h2 hv w
      exact .mk hK rfl (by simpa [Builtin.min_] using hr) mk_int
  · exact hk.elim

theorem RepD.mkFunc (h : RepD Γ X N ds σ a w G St own) {f : FuncId} {first caps : List L} {fs cs : List Value} (hf : repLs σ.mem G St (rdW w) first fs) (hc : repLs σ.mem G St (rdW w) caps cs) (hk : vmakeFunc σ f first caps K) :
    Makes P Γ X N ds σ a w (Instr.makeFunc (.func f) fs.toArray cs.toArray) K := by
  unfold vmakeFunc at hk
  obtain ⟨p, hp, hk⟩ := wantO_iff.1 hk
  obtain ⟨q, hq, hK⟩ := wantO_iff.1 hk
  have hF := h.frz (p.fz ++ q.fz)
  have e : frzs (p.fz ++ q.fz) = frzs p.fz ++ frzs q.fz := by simp [frzs]
  rw [e] at hF
  refine ⟨_, .func (.func f) fs.toArray cs.toArray, w, hK, rfl, G, _, own, hF, ?_⟩
  simp only [repLv, rep]
  refine ⟨?_, rfl⟩
  simp only [repC]
  exact ⟨_, _, rfl, h.pubs hp hf (fun t ht => List.mem_append_left _ ht), h.pubOs hq hc (fun t ht => List.mem_append_right _ ht)⟩

theorem bnd_ok {mem : Key → M} {rd : Nat → Nat → Option Value} {d : Nat} {o : Option L} {v : Option Value} {n : Int} (hv : match o, v with | none, none => True | some l, some u => repLv mem G St rd l u | _, _ => False) (hb : bnd d o = some n) : (v = none ∧ n = d) ∨ ∃ k, v = some (.int k n) := by
  unfold bnd at hb
  split at hb
  · cases hb
    cases v with
    | none => exact .inl ⟨rfl, rfl⟩
    | some _ => exact hv.elim
  · cases hb
    cases v with
    | none => exact hv.elim
    | some u => exact .inr ⟨_, by rw [pint hv]⟩
  · cases hb

theorem run_bounds {isSl : Bool} {len cap : Nat} {lo hi : Option Value} {x y : Int} (hlo : (lo = none ∧ x = (0 : Nat)) ∨ ∃ k, lo = some (.int k x)) (hhi : (hi = none ∧ y = len) ∨ ∃ k, hi = some (.int k y)) (h0 : 0 ≤ x) (h1 : x ≤ y) (h2 : y ≤ len) (h3 : len ≤ cap) (w : World) :
    (Instr.sliceBounds isSl len cap lo hi none).run P w = .ok (x.toNat, y.toNat, cap) w := by
  have c1 : y ≤ (cap : Int) := by omega
  have c2 : 0 ≤ y := by omega
  have c3 : x ≤ (y.toNat : Int) := by omega
  obtain ⟨y, rfl⟩ := Int.eq_ofNat_of_zero_le c2
  obtain ⟨x, rfl⟩ := Int.eq_ofNat_of_zero_le h0
  simp only [Int.toNat_natCast] at c3 ⊢
  have d1 : y ≤ cap := by omega
  have d2 : x ≤ y := by omega
  have d3 : x ≤ len := by omega
  rcases hlo with ⟨rfl, hx⟩ | ⟨k, rfl⟩ <;> rcases hhi with ⟨rfl, hy⟩ | ⟨k', rfl⟩
  · obtain rfl : x = 0 := by omega
    obtain rfl : y = len := by omega
    simp [Instr.sliceBounds]
  · obtain rfl : x = 0 := by omega
    simp [Instr.sliceBounds, Instr.sliceBound, asIntOf, d1]
  · obtain rfl : y = len := by omega
    simp [Instr.sliceBounds, Instr.sliceBound, asIntOf, d2]
  · simp [Instr.sliceBounds, Instr.sliceBound, asIntOf, d1, d2]

theorem repE_sub {xs : List V} {b sz o m n : Nat} {rd : Nat → Nat → Option Value} (h : repE St rd xs b sz o) : repE St rd ((xs.take n).drop m) b sz (o + m * sz) := by
  refine repE_get.2 fun i x hi => ?_
  rw [List.getElem?_drop] at hi
  have hlt : m + i < n := Classical.byContradiction fun hn => by rw [List.getElem?_eq_none (by simp; omega)] at hi; cases hi
  rw [List.getElem?_take_of_lt hlt] at hi
  have := repE_get.1 h (m + i) x hi
  rwa [Nat.add_mul, ← Nat.add_assoc] at this

theorem RepD.slc (h : RepD Γ X N ds σ a w G St own) {t : TypeId} {x : L} {u : Value} {lo hi mx : Option L} {vlo vhi vmx : Option Value} (hx : repLv σ.mem G St (rdW w) x u)
    (hlo : match lo, vlo with | none, none => True | some l, some u => repLv σ.mem G St (rdW w) l u | _, _ => False) (hhi : match hi, vhi with | none, none => True | some l, some u => repLv σ.mem G St (rdW w) l u | _, _ => False)
    (hmx : match mx, vmx with | none, none => True | some l, some u => repLv σ.mem G St (rdW w) l u | _, _ => False) (hk : vslice P σ t x lo hi mx K) : Makes P Γ X N ds σ a w (Instr.sliceAt t u vlo vhi vmx) K := by
  unfold vslice at hk
  split at hk
  · rename_i s
    obtain ⟨⟨h1, h2⟩, hk⟩ := need_iff.1 hk
    obtain ⟨x1, hx1, hk⟩ := wantO_iff.1 hk
    obtain ⟨y1, hy1, hk⟩ := wantO_iff.1 hk
    obtain ⟨⟨c1, c2, c3⟩, hK⟩ := need_iff.1 hk
    have hu : P.underlying t = some .string := by unfold isStr at h1; split at h1 <;> first | assumption | cases h1
    have e : vmx = none := by cases mx <;> simp at h2; cases vmx <;> first | rfl | exact hmx.elim
    subst e
    rw [pstr hx]
    refine Gives.makes h (.mk hK rfl (u := .string (s.extract x1.toNat y1.toNat)) ?_ mk_str)
    have hb := run_bounds (P := P) (isSl := false) (bnd_ok hlo hx1) (bnd_ok hhi hy1) c1 c2 c3 (Nat.le_refl _) w
    simp [Instr.sliceAt, run_underlying hu, Instr.slice, hb]
  · obtain ⟨e, he, hk1⟩ := wantO_iff.1 hk
    obtain ⟨es, hes, hk2⟩ := wantO_iff.1 hk1
    obtain ⟨q, hq, hk3⟩ := wantO_iff.1 hk2
    clear hk hk1 hk2
    have hF := h.frz q.fz
    have hr := h.pub0 hq hx (fz := q.fz) fun _ h => h
    split at hk3
    · rename_i xs hqv
      rw [hqv] at hr
      have hr' : repLv σ.mem G (stF σ G St q.fz) (rdW w) (.p (.sl xs)) u := by simp only [repLv]; exact hr
      split at hk3
      · obtain ⟨x1, hx1, hk⟩ := wantO_iff.1 hk3
        obtain ⟨y1, hy1, hk⟩ := wantO_iff.1 hk
        obtain ⟨⟨c1, c2, c3, c4⟩, hK⟩ := need_iff.1 hk
        have e1 : vmx = none := by cases vmx <;> first | rfl | exact hmx.elim
        subst e1
        rcases psl hr' with ⟨hn, a0, c0, rfl⟩ | ⟨b, o, cap, sz, rfl, hcap, hE⟩
        · subst hn
          have hb := run_bounds (P := P) (isSl := true) (cap := c0) (bnd_ok hlo hx1) (bnd_ok hhi hy1) c1 c2 c3 (Nat.zero_le _) w
          simp only [List.length_nil] at hb c3
          have z1 : x1.toNat = 0 := by omega
          have z2 : y1.toNat = 0 := by omega
          refine ⟨_, .slice a0 0 c0, w, hK, ?_, G, _, own, hF, ?_⟩
          · simp [Instr.sliceAt, run_underlying (elq_some he), Instr.slice, hb, run_sizeOf hes, z1, z2, Addr.add]
          · simp only [repLv, rep]
            refine ⟨?_, rfl⟩
            simp only [repC, Value.cells]
            exact .inl ⟨by simp, _, _, rfl⟩
        · have hb := run_bounds (P := P) (isSl := true) (bnd_ok hlo hx1) (bnd_ok hhi hy1) c1 c2 c3 hcap w
          have hl : ((xs.take y1.toNat).drop x1.toNat).length = y1.toNat - x1.toNat := by simp; omega
          refine ⟨_, .slice (some (if cap = x1.toNat then ⟨b, o, none⟩ else ⟨b, o + x1.toNat * es, none⟩)) (y1.toNat - x1.toNat) (cap - x1.toNat), w, hK, ?_, G, _, own, hF, ?_⟩
          · simp only [Instr.sliceAt, Instr.slice, Sem.run_bind, run_underlying (elq_some he), Result.andThen_ok, hb, run_sizeOf hes, Sem.run_pure]
            split <;> simp [add_addr]
          · simp only [repLv, rep]
            refine ⟨?_, rfl⟩
            simp only [repC, Value.cells]
            refine .inr ⟨b, if cap = x1.toNat then o else o + x1.toNat * es, cap - x1.toNat, sz, ?_, by rw [hl]; omega, ?_⟩
            · rw [hl]; split <;> rfl
            · split
              · rename_i hcx
                have : (xs.take y1.toNat).drop x1.toNat = [] := List.eq_nil_of_length_eq_zero (by rw [hl]; omega)
                rw [this]; simp only [repE]
              · have hsz : (xs.take y1.toNat).drop x1.toNat = [] ∨ sz = es := by
                  cases hxs : xs with
                  | nil => left; simp
                  | cons y ys =>
                    right
                    obtain ⟨vs, v1, _, v3⟩ := repE_get.1 hE 0 y (by rw [hxs]; rfl)
                    have := repC_len _ _ v3
                    have := c4 y (by rw [hxs]; simp)
                    omega
                rcases hsz with hsz | hsz
                · rw [hsz]; simp only [repE]
                · subst hsz; exact repE_sub hE
      · rename_i m
        obtain ⟨x1, hx1, hk⟩ := wantO_iff.1 hk3
        obtain ⟨y1, hy1, hk⟩ := wantO_iff.1 hk
        obtain ⟨z1, hz1, hk⟩ := wantO_iff.1 hk
        obtain ⟨⟨rfl, rfl, rfl, hhs⟩, hK⟩ := need_iff.1 hk
        have hm2 := bnd_ok hmx hz1
        have hl2 := bnd_ok hlo hx1
        have hh2 := bnd_ok hhi hy1
        have hb : ∀ len cap, (Instr.sliceBounds true len cap vlo vhi vmx).run P w = .ok (0, 0, 0) w := fun len cap => by
          rcases hm2 with ⟨e1, _⟩ | ⟨km, rfl⟩
          · subst e1; exact hmx.elim
          rcases hh2 with ⟨e1, _⟩ | ⟨kh, rfl⟩
          · subst e1
            cases hi with
            | none => simp at hhs
            | some l => exact hhi.elim
          rcases hl2 with ⟨rfl, _⟩ | ⟨kl, rfl⟩
          · simp [Instr.sliceBounds, Instr.sliceBound, asIntOf]
          · simp [Instr.sliceBounds, Instr.sliceBound, asIntOf]
        rcases psl hr' with ⟨hn, a0, c0, rfl⟩ | ⟨b, o, cap, sz, rfl, hcap, hE⟩
        · refine Gives.makes h (.mk hK rfl (u := .slice a0 0 0) ?_ (by simp [repLv]))
          simp [Instr.sliceAt, run_underlying (elq_some he), Instr.slice, hb, run_sizeOf hes]
        · refine Gives.makes h (.mk hK rfl (u := .slice (some ⟨b, o, none⟩) 0 0) ?_ (by simp [repLv]))
          simp [Instr.sliceAt, run_underlying (elq_some he), Instr.slice, hb, run_sizeOf hes]
    · exact hk3.elim

theorem RepD.slcW (h : RepD Γ X N ds σ a w G St own) {t : TypeId} {x : L} {u : Value} {lo hi mx : Option L} {vlo vhi vmx : Option Value} (hx : repLv σ.mem G St (rdW w) x u)
    (hlo : match lo, vlo with | none, none => True | some l, some u => repLv σ.mem G St (rdW w) l u | _, _ => False) (hhi : match hi, vhi with | none, none => True | some l, some u => repLv σ.mem G St (rdW w) l u | _, _ => False)
    (hmx : match mx, vmx with | none, none => True | some l, some u => repLv σ.mem G St (rdW w) l u | _, _ => False) (hk : vsliceW P σ t x lo hi mx K) : Makes P Γ X N ds σ a w (Instr.sliceAt t u vlo vhi vmx) K := by
  unfold vsliceW at hk
  split at hk
  · rename_i s g
    obtain ⟨e, he, hk⟩ := wantO_iff.1 hk
    obtain ⟨es, hes, hk⟩ := wantO_iff.1 hk
    obtain ⟨⟨⟨e0, es0⟩, xs⟩, hc, hk⟩ := wantO_iff.1 hk
    obtain ⟨x1, hx1, hk⟩ := wantO_iff.1 hk
    obtain ⟨y1, hy1, hk⟩ := wantO_iff.1 hk
    obtain ⟨⟨c0, ce, c1, c2, c3⟩, hK⟩ := need_iff.1 hk
    simp only at ce c3
    subst ce
    have hm := curA_some hc
    simp only at hm
    have hv := h.arrVal hm hx
    have e1 : vmx = none := by cases mx <;> simp at c0; cases vmx <;> first | rfl | exact hmx.elim
    subst e1
    obtain ⟨h0, vs, ho, hE⟩ := h.arrs s g _ _ _ hm
    obtain ⟨base, cap, hu, hcap, hb⟩ : ∃ base cap, u = .slice base xs.length cap ∧ xs.length ≤ cap ∧ ∀ _ : 0 < xs.length, ∃ blk, (G.av s).ownBlock = some blk ∧ base = some ⟨blk, 0, none⟩ := by
      rcases ho.2 with ⟨p1, p2⟩ | ⟨blk, cap, cur, p1, _, p2, p3, _⟩
      · exact ⟨none, 0, by rw [hv, p1, p2], by omega, fun hl => by omega⟩
      · exact ⟨_, cap, by rw [hv, p1], p3, fun _ => ⟨blk, by rw [p1]; rfl, rfl⟩⟩
    subst hu
    have hbd := run_bounds (P := P) (isSl := true) (bnd_ok hlo hx1) (bnd_ok hhi hy1) c1 c2 c3 hcap w
    split at hK
    · obtain ⟨⟨cb, cf⟩, hK2⟩ := need_iff.1 hK
      clear hK
      obtain rfl : y1 = 0 := cb
      obtain rfl : x1 = 0 := by omega
      have hrun : (Instr.sliceAt t (.slice base xs.length cap) vlo vhi none).run P w = .ok (.slice (if cap = (0 : Int).toNat then base else base.map (·.add ((0 : Int).toNat * es0))) ((0 : Int).toNat - (0 : Int).toNat) (cap - (0 : Int).toNat)) w := by
        simp only [Instr.sliceAt, Instr.slice, Sem.run_bind, run_underlying (elq_some he), Result.andThen_ok, hbd, run_sizeOf hes, Sem.run_pure]
      have hval : (if cap = (0 : Int).toNat then base else base.map (·.add ((0 : Int).toNat * es0))) = base := by
        split
        · rfl
        · cases base with
          | none => rfl
          | some ad => simp [Addr.add]
      rw [hval] at hrun
      rw [← hv] at ho
      have ho2 : w.ownsRow 0 e0 es0 (.slice base 0 cap) 0 [] := by
        refine ⟨by simp, ?_⟩
        rcases ho.2 with ⟨p1, p2⟩ | ⟨blk, cap', cur, p1, _, p2, p3, p4, p5, _⟩
        · simp only [Value.slice.injEq] at p1
          obtain ⟨rfl, _, rfl⟩ := p1
          exact .inl ⟨rfl, rfl⟩
        · simp only [Value.slice.injEq] at p1
          obtain ⟨rfl, _, rfl⟩ := p1
          exact .inr ⟨blk, cap, cur, rfl, Nat.zero_le _, p2, Nat.zero_le _, p4, p5, by simp⟩
      have hbl : ∀ b, (Value.slice base 0 cap).ownBlock = some b → (G.av s).ownBlock = some b := fun b hb => by
        rw [← hv]
        cases base with
        | none => cases hb
        | some ad => exact hb
      have hupd := h.updArrX (w' := w) (g2 := g + 1) (xs2 := []) (v2 := .slice base 0 cap) (vs2 := []) hm ⟨rfl, rfl, rfl, Nat.le_refl _, fun _ _ _ => rfl⟩ (by simpa using ho2) ⟨by simp, by simp⟩ (fun _ _ _ => rfl) (.inr cf) (.inl (by omega)) (fun b hb => .inl (hbl b hb))
      refine ⟨_, _, w, hK2, hrun, _, _, _, hupd, ?_⟩
      simp only [repLv]
      exact ⟨g + 1, e0, es0, [], by simp [VS.upd, look], Nat.le_refl _, rfl, fun _ => by simp⟩
    refine Gives.makes h ⟨_, .slice (if cap = x1.toNat then base else base.map (·.add (x1.toNat * es0))) (y1.toNat - x1.toNat) (cap - x1.toNat), hK, rfl, ?_, ?_⟩
    · simp only [Instr.sliceAt, Instr.slice, Sem.run_bind, run_underlying (elq_some he), Result.andThen_ok, hbd, run_sizeOf hes, Sem.run_pure]
    · simp only [repLv]
      refine ⟨g, e0, es0, xs, hm, Nat.le_refl _, fun _ => ⟨by omega, by omega, _, _, rfl, fun hij => ?_⟩⟩
      obtain ⟨blk, b1, rfl⟩ := hb (by omega)
      refine ⟨blk, b1, ?_⟩
      rw [if_neg (by omega)]
      simp [Addr.add]
      try exact fun h => h.symm
  · obtain ⟨e, he, hk⟩ := wantO_iff.1 hk
    obtain ⟨es, hes, hk⟩ := wantO_iff.1 hk
    obtain ⟨x1, hx1, hk⟩ := wantO_iff.1 hk
    obtain ⟨y1, hy1, hk⟩ := wantO_iff.1 hk
    obtain ⟨⟨c0, c1, c2⟩, hK⟩ := need_iff.1 hk
    subst c1; subst c2
    simp only [repLv] at hx
    subst hx
    have e1 : vmx = none := by cases mx <;> simp at c0; cases vmx <;> first | rfl | exact hmx.elim
    subst e1
    have hbd := run_bounds (P := P) (isSl := true) (len := 0) (cap := 0) (bnd_ok hlo hx1) (bnd_ok hhi hy1) (Int.le_refl _) (Int.le_refl _) (Int.le_refl _) (Nat.le_refl _) w
    refine Gives.makes h ⟨_, .slice none 0 0, hK, rfl, ?_, by simp only [repLv]⟩
    simp only [Instr.sliceAt, Instr.slice, Sem.run_bind, run_underlying (elq_some he), Result.andThen_ok, hbd, run_sizeOf hes, Sem.run_pure]
    rfl
  · exact hk.elim

theorem upd_same {k : Key} {m : M} (h : σ.mem k = m) : σ.upd [(k, m)] = σ := by
  obtain ⟨g, mm⟩ := σ
  simp only [VS.upd, look, VS.mk.injEq, true_and]
  funext k'
  split
  · rename_i e; subst e; exact h.symm
  · rfl

theorem RepD.cpy (h : RepD Γ X N ds σ a w G St own) {t ty : TypeId} {d x : L} {u v : Value} (hd : repLv σ.mem G St (rdW w) d u) (hx : repLv σ.mem G St (rdW w) x v) (hk : vcopy P σ t d x K) :
    Makes P Γ X N ds σ a w (Builtin.copy_ #[t, t] ty #[u, v]) K := by
  unfold vcopy at hk
  obtain ⟨e, he, hk⟩ := wantO_iff.1 hk
  obtain ⟨es, hes, hk⟩ := wantO_iff.1 hk
  obtain ⟨⟨⟨s, g⟩, ⟨⟨e0, es0⟩, xs⟩, i, j⟩, hq, hk⟩ := wantO_iff.1 hk
  obtain ⟨⟨ys, ks⟩, hc, hk⟩ := wantO_iff.1 hk
  obtain ⟨⟨rfl, ce, cf, cy, c1, c2⟩, hK⟩ := need_iff.1 hk
  simp only at ce cf cy c1 c2 hK
  subst ce
  obtain ⟨ie, hie, hsz⟩ := szq_some hes
  have hu := elq_some he
  have hs1 : (P.info? e).map (·.size) = some 1 := by rw [hie]; simp [hsz]
  obtain ⟨hm, base, cap, rfl, hbase⟩ : σ.mem (.a s) = .arr g e0 1 xs ∧ ∃ base cap, u = .slice base (j - i) cap ∧ (i < j → ∃ blk, (G.av s).ownBlock = some blk ∧ base = some ⟨blk, i, none⟩) := by
    cases d with
    | arr t' g' =>
      simp only [winQ] at hq
      obtain ⟨c, hcu, hp⟩ := Option.map_eq_some_iff.1 hq
      simp only [Prod.mk.injEq] at hp
      obtain ⟨⟨rfl, rfl⟩, rfl, rfl, rfl⟩ := hp
      have hm := curA_some hcu
      simp only at hm
      refine ⟨hm, ?_⟩
      have hv := h.arrVal hm hd
      obtain ⟨_, vs, ho, _⟩ := h.arrs _ _ _ _ _ hm
      rcases ho.2 with ⟨p1, p2⟩ | ⟨blk, cap, cur, p1, _⟩
      · exact ⟨none, 0, by rw [hv, p1, p2], fun hl => by simp only at hl; omega⟩
      · exact ⟨_, cap, by rw [hv, p1]; simp, fun _ => ⟨blk, by rw [p1]; rfl, rfl⟩⟩
    | win t' g' a' b' =>
      simp only [winQ] at hq
      obtain ⟨c, hcu, hp⟩ := Option.map_eq_some_iff.1 hq
      simp only [Prod.mk.injEq] at hp
      obtain ⟨⟨rfl, rfl⟩, rfl, rfl, rfl⟩ := hp
      have hm := curA_some hcu
      simp only at hm
      refine ⟨hm, ?_⟩
      simp only [repLv] at hd
      obtain ⟨g1, e1, es1, xs1, p1, p2, p3⟩ := hd
      rw [hm] at p1; cases p1
      obtain ⟨_, _, base, c, rfl, q3⟩ := p3 rfl
      exact ⟨base, c, rfl, fun hl => by simpa using q3 hl⟩
    | _ => simp [winQ] at hq
  obtain ⟨h0, vs, ho, hE⟩ := h.arrs s g _ _ _ hm
  -- nothing goes over
  have none_ : ∀ (sp : Option Addr) (sl sc : Nat), v = .slice sp sl sc → sl = ys.length → min ys.length (j - i) = 0 → Makes P Γ X N ds σ a w (Builtin.copy_ #[t, t] ty #[.slice base (j - i) cap, v]) K := by
    intro sp sl sc hv hl hn
    subst hv; subst hl
    have hrun := run_copy_none (P := P) w t t ty e base sp (j - i) cap ys.length sc hu hs1 hn
    rw [hn] at hK
    have hsame : σ.upd [(.a s, .arr g e0 1 (xs.take i ++ ys.take 0 ++ xs.drop (i + 0)))] = σ := upd_same (by simpa using hm)
    refine ⟨_, _, w, hK, hrun, G, St, own, ?_, ?_⟩
    · simp only [hsame]; exact h
    · simp only [repLv]; exact ⟨by simp [repC, goInt, Value.cells], rfl⟩
  rcases h.contVals hx hc cy with ⟨⟨a0, c0, rfl⟩, rfl⟩ | ⟨b, o, cp, news, rfl, n1, n2, n3, n4⟩
  · exact none_ a0 0 c0 rfl rfl (by simp)
  by_cases hn : min ys.length (j - i) = 0
  · exact none_ _ _ _ rfl rfl hn
  obtain ⟨blk, b1, rfl⟩ := hbase (by omega)
  rcases ho.2 with ⟨p1, p2⟩ | ⟨blk', cap', cur, p1, _, hb, hnc, hcm, hcs, hcur⟩
  · rw [p1] at b1; cases b1
  obtain rfl : blk' = blk := by rw [p1] at b1; simpa [Value.ownBlock] using b1
  simp only [Nat.mul_one] at n1 hcs hcur
  have hvl : vs.length = xs.length := by simpa using ho.1
  generalize hnn : min ys.length (j - i) = n at hK hn
  have hcl : (news.take n).length = n := by rw [List.length_take]; omega
  have hfit : i + (news.take n).length ≤ cur.size := by rw [hcl, hcs]; omega
  have hrun := run_copy_row (P := P) w t t ty e blk' i (j - i) cap ⟨b, o, none⟩ ys.length cp cur e0 (news.take n) hu hs1 hb (by rw [hcl, ← hnn])
    (fun k z hk => by
      have hkn : k < n := by have := (List.getElem?_eq_some_iff.1 hk).1; omega
      rw [List.getElem?_take_of_lt hkn] at hk
      rw [add_addr]; exact n2 k z hk) hfit (fun z hz => n4 z (List.mem_of_mem_take hz))
  rw [hcl] at hrun
  have hsa : ∀ o, ¬ St blk' o := (h.sarr s g _ _ _ blk' hm (by rw [p1]; rfl)).1 cf
  generalize hnew : (cur.toList.take i ++ news.take n ++ cur.toList.drop (i + n)).toArray = new at hrun
  have hnsz : new.size = cur.size := by rw [← hnew]; simp; omega
  have hxl : (xs.take i ++ ys.take n ++ xs.drop (i + n)).length = xs.length := by simp; omega
  have hE2 : repEs St (rdW w) 1 (xs.take i ++ ys.take n ++ xs.drop (i + n)) (vs.take i ++ news.take n ++ vs.drop (i + n)) := by
    have e1 := repEs_take hE i
    have e2 := repEs_take n3 n
    have e3 := repEs_drop hE (i + n)
    simp only [Nat.mul_one] at e1 e2 e3
    exact repEs_append (repEs_append e1 e2) e3
  have hvs2 : new.toList.take xs.length = vs.take i ++ news.take n ++ vs.drop (i + n) := by
    rw [← hnew]
    simp only []
    have hcur' : cur.toList.take xs.length = vs := hcur
    have c1' : cur.toList.take i = vs.take i := by rw [← hcur', List.take_take, Nat.min_eq_left (by omega)]
    have c2' : vs.drop (i + n) = (cur.toList.drop (i + n)).take (xs.length - (i + n)) := by rw [← hcur', List.drop_take]
    have hX : (cur.toList.take i ++ news.take n).length = i + n := by rw [List.length_append, hcl, List.length_take]; simp only [Array.length_toList]; omega
    rw [List.take_append, List.take_of_length_le (by rw [hX]; omega), hX, c1', ← c2']
  have hupd := h.updArr (w' := w.setRow blk' new) (g2 := g) (xs2 := xs.take i ++ ys.take n ++ xs.drop (i + n)) (v2 := G.av s) hm
    ⟨rfl, rfl, rfl, by simp, fun k _ hk => setRow_other w blk' k _ fun e0 => hk (by rw [p1, e0]; rfl)⟩
    ⟨by simpa using hE2.1, .inr ⟨blk', cap', new, by rw [hxl]; exact p1, Nat.zero_le _, setRow_heap w blk' cur new e0 (0, 0) hb, by rw [hxl]; exact hnc, hcm, by rw [hnsz]; simpa using hcs, by rw [hxl]; simpa using hvs2⟩⟩
    hE2
    (fun b o hst => rdW_of_block (setRow_other w blk' b _ fun e0 => hsa o (e0 ▸ hst)))
    (by rw [hxl]; exact Nat.le_refl _) (.inr ⟨rfl, hxl.symm, rfl⟩) (fun b hb' => .inl hb')
  refine ⟨_, _, _, hK, hrun, _, _, _, hupd, ?_⟩
  simp only [repLv]
  exact ⟨by simp [repC, goInt, Value.cells], rfl⟩
theorem zeroCells_one {z : Array Value} {n : Nat} (hz : z.size = 1) : (Builtin.zeroCells z n).toList = List.replicate n z[0]! := by
  unfold Builtin.zeroCells
  rw [hz]
  apply List.ext_getElem
  · simp
  · intro i h1 h2
    simp [Nat.mod_one]
theorem RepD.appZ (h : RepD Γ X N ds σ a w G St own) {d : Nat} {t tx ty : TypeId} {s x : L} {u v : Value} (hs : repLv σ.mem G St (rdW w) s u) (hx : repLv σ.mem G St (rdW w) x v) (hk : vappZ P σ d t tx s x K) :
    Makes P Γ X N ds σ a w (Builtin.append_ #[t, tx] ty #[u, v]) K := by
  unfold vappZ at hk
  obtain ⟨e, he, hk⟩ := wantO_iff.1 hk
  obtain ⟨es, hes, hk⟩ := wantO_iff.1 hk
  obtain ⟨by', hby, hk⟩ := wantO_iff.1 hk
  obtain ⟨z, hz, hk⟩ := wantO_iff.1 hk
  obtain ⟨ag, hag, hk⟩ := wantO_iff.1 hk
  obtain ⟨q, hq, hk⟩ := wantO_iff.1 hk
  obtain ⟨y, hy, hk⟩ := wantO_iff.1 hk
  split at hk
  · rename_i k m
    obtain ⟨⟨h1, rfl, h2, h3, h4, h5, h6⟩, hK⟩ := need_iff.1 hk
    simp only [repLv] at hs
    subst hs
    rw [pint hx]
    obtain ⟨ie, hie, hsz⟩ := szq_some hes
    subst hsz
    obtain ⟨i, zv, g1, g2, g3⟩ := zeq_some hz
    rw [hie] at g1; cases g1
    obtain ⟨ie2, hie2, hb⟩ := byq_some hby
    rw [hie] at hie2; cases hie2
    obtain ⟨r1, r2, r3⟩ := scals_rep (mem := σ.mem) (G := G) (St := St) (rd := rdW w) g3
    have hfz := run_scal_fz g3 hq
    have hL := h.pubCells r3 hq r1 (fz := []) (by rw [hfz]; simp)
    have hrep : repC (stF σ G St []) (rdW w) y zv.cells.toList := by
      unfold unAggV at hy
      split at hy
      · cases hy; simp only [repC]; exact hL
      · split at hy
        · rename_i c0 hc0
          cases hy
          rw [hc0] at hL
          simp only [repL] at hL
          obtain ⟨v0, r0, e0, ⟨_, p0⟩, rfl⟩ := hL
          rw [e0]; exact p0
        · cases hy
    have hrep2 : repC St (rdW w) y zv.cells.toList := repC_mono (fun b o hb => by rcases hb with hb | ⟨t, ht, _⟩; exact hb; cases ht) (fun _ _ _ => rfl) _ _ hrep
    have hzl : zv.cells.toList.length = 1 := by rw [repC_len _ _ hrep2, h5, h6]
    have hzs : zv.cells.size = 1 := by simpa using hzl
    obtain ⟨n0, rfl⟩ := Int.eq_ofNat_of_zero_le (Int.le_of_lt h2)
    have h0 : 0 < n0 := by omega
    simp only [Int.toNat_natCast] at h3 hK
    have hn0 : n0 ≤ maxBytes := Nat.le_trans (Nat.le_mul_of_pos_right n0 (by omega)) h3
    have hbb : n0 * ie.bytes ≤ 281474976710656 := by
      rw [hb]; have : n0 * by' ≤ n0 * (by' + 1) := Nat.mul_le_mul_left _ (by omega)
      unfold maxBytes at h3; omega
    obtain ⟨kn, hkn⟩ : ∃ kn, P.underlying tx = some (.int kn) := by
      unfold isIntT at h1
      split at h1
      · rename_i kn hkn; exact ⟨kn, hkn⟩
      · cases h1
    have hrun := Go.Lib.run_append_nil_zeros (P := P) w t tx ty e ie zv .i64 kn (elq_some he) hkn hie g2 n0 h0 (by omega) (by unfold maxBytes at hn0; omega) hbb
    have hge := grownCap_ge w n0 0 e
    have hcells : (Builtin.zeroCells zv.cells n0 ++ Builtin.zeroCells zv.cells (grownCap w n0 0 e - n0)).toList = List.replicate n0 zv.cells[0]! ++ List.replicate (grownCap w n0 0 e - n0) zv.cells[0]! := by
      rw [Array.toList_append, zeroCells_one hzs, zeroCells_one hzs]
    have hz0 : zv.cells.toList = [zv.cells[0]!] := by
      match hh : zv.cells.toList, hzl with
      | [c0], _ =>
        have : zv.cells = #[c0] := by apply Array.toList_inj.1; simpa using hh
        rw [this]; rfl
    have ho : (w.drew.alloc (.cells (Builtin.zeroCells zv.cells n0 ++ Builtin.zeroCells zv.cells (grownCap w n0 0 e - n0)) e)).ownsRow 0 e ie.size (.slice (some ⟨w.heap.size, 0, none⟩) n0 (grownCap w n0 0 e)) (List.replicate n0 y).length (List.replicate n0 zv.cells[0]!) := by
      refine ⟨by simp [h6], .inr ⟨w.heap.size, _, _, by simp, Nat.zero_le _, heap_alloc_new w.drew _, by simpa using hge, grownCap_le_maxLen w n0 0 e (by unfold maxBytes at hn0; unfold maxLen; omega), ?_, ?_⟩⟩
      · have := congrArg List.length hcells
        simp only [Array.length_toList, List.length_append, List.length_replicate] at this
        rw [this, h6]; omega
      · rw [hcells, h6]
        simp
    have hw : w.grownBy (w.drew.alloc (.cells (Builtin.zeroCells zv.cells n0 ++ Builtin.zeroCells zv.cells (grownCap w n0 0 e - n0)) e)) none := ⟨rfl, rfl, rfl, by simp, fun k hk _ => RowKit.Below.heap_alloc w.drew _ k hk⟩
    have hE : repEs St (rdW w) ie.size (List.replicate n0 y) (List.replicate n0 zv.cells[0]!) := by
      refine ⟨by simp [h6], fun i x hi => ?_⟩
      have hin : i < n0 := by have := (List.getElem?_eq_some_iff.1 hi).1; simpa using this
      have hxy : x = y := by simp [hin] at hi; exact hi.symm
      subst hxy
      have : ((List.replicate n0 zv.cells[0]!).drop (i * ie.size)).take ie.size = zv.cells.toList := by
        rw [h6, hz0, Nat.mul_one, List.drop_replicate, List.take_replicate, Nat.min_eq_left (by omega)]; rfl
      rw [this]; exact hrep2
    generalize hW : w.drew.alloc (.cells (Builtin.zeroCells zv.cells n0 ++ Builtin.zeroCells zv.cells (grownCap w n0 0 e - n0)) e) = w' at hrun ho hw
    have hsz2 : w.heap.size < w'.heap.size := by rw [← hW]; simp
    have h' := h.ext (w' := w') ⟨hw.os, hw.tape, hw.output, hw.size, fun k hk _ => hw.block k hk (by simp)⟩
    have hrd : ∀ b o, St b o → rdW w' b o = rdW w b o := fun b o hb => rdW_of_block (hw.block b (h.stlt b o hb) (by simp))
    have hn := h'.newArr (d := d) h4 (by omega) ho (repEs_mono (fun _ _ h => h) hrd hE) (fun b hb => by
      simp only [Value.ownBlock, Option.some.injEq] at hb
      subst hb
      exact ⟨.inr ⟨Nat.le_refl _, hsz2⟩, fun t ht => by have := h.blk_lt ht; omega, fun o ho => by have := h.stlt _ o ho; omega⟩)
    refine ⟨_, _, w', hK, hrun, _, _, _, hn, ?_⟩
    simp only [repLv]
    exact ⟨0, e, ie.size, List.replicate n0 y, by simp [VS.upd, look], Nat.le_refl _, rfl, fun _ => by simp⟩
  · exact hk.elim
end Go.Vm

namespace Go.Vm
variable {Γ : Nat → Option (List V)} {X : Ctx} {N : Nat} {ds : List Deferred} {σ : VS} {a : Act} {w w' : World} {G G' : GG} {St St' : Nat → Nat → Prop} {own : Nat → Prop} {P : Program} {K : Eff → Prop}

def repRC (St : Nat → Nat → Prop) (w : World) (B : Nat) : RC → Value → List Nat → Prop
  | .p v, u, bl => rep St (rdW w) v u ∧ bl = []
  | .nilS, u, bl => u = .slice none 0 0 ∧ bl = []
  | .e0, u, bl => (∃ a, u = .slice a 0 0) ∧ bl = []
  | .arr e es xs, u, bl => 0 < es ∧ (∃ vs, w.ownsRow 0 e es u xs.length vs ∧ repEs St (rdW w) es xs vs) ∧ bl = u.ownBlock.toList ∧ ∀ b ∈ bl, B ≤ b ∧ b < w.heap.size ∧ ∀ o, ¬ St b o
def repRCs (St : Nat → Nat → Prop) (w : World) (B : Nat) : List RC → List Value → List Nat → Prop
  | [], vs, bl => vs = [] ∧ bl = []
  | r :: rs, vs, bl => ∃ v vr b1 b2, vs = v :: vr ∧ bl = b1 ++ b2 ∧ v.oneCell' = true ∧ repRC St w B r v b1 ∧ repRCs St w B rs vr b2
def repR1 (St : Nat → Nat → Prop) (w : World) (B : Nat) : R1 → Value → List Nat → Prop
  | .c r, u, bl => repRC St w B r u bl
  | .agg rs, u, bl => ∃ vs, u = .agg vs ∧ repRCs St w B rs vs.toList bl
def repR1s (St : Nat → Nat → Prop) (w : World) (B : Nat) : List R1 → List Value → List Nat → Prop
  | [], vs, bl => vs = [] ∧ bl = []
  | r :: rs, vs, bl => ∃ v vr b1 b2, vs = v :: vr ∧ bl = b1 ++ b2 ∧ repR1 St w B r v b1 ∧ repR1s St w B rs vr b2
def repR (St : Nat → Nat → Prop) (w : World) (B : Nat) : R → Value → List Nat → Prop
  | .one r, u, bl => repR1 St w B r u bl
  | .tup rs, u, bl => ∃ vs, u = .tuple vs ∧ repR1s St w B rs vs.toList bl

def Enters (P : Program) (f : FuncId) : Prop := ∀ args w, (callFunc f args).run P w = .ok (.enter f args) w

def SpecP (P : Program) (Γ : Nat → Option (List V)) (f : FuncId) (args : List V) (r : R) : Prop :=
  ∀ (St : Nat → Nat → Prop) (w : World) (vs : List Value), (∀ b o, St b o → b < w.heap.size) → (∀ g cs, Γ g = some cs → repA St (rdW w) cs g 0) → repT St (rdW w) args vs →
    Calls P f vs.toArray w fun e w' => ∃ v St' bl, e = .returned v ∧ RowKit.Below w.heap.size w w' ∧ (∀ b o, St b o → St' b o) ∧ (∀ b o, St' b o → St b o ∨ w.heap.size ≤ b) ∧ (∀ b o, St' b o → b < w'.heap.size) ∧ bl.Nodup ∧ repR St' w' w.heap.size r v bl
def SpecO (P : Program) (Γ : Nat → Option (List V)) (f : FuncId) (pre : List V) (e : TypeId) (es : Nat) (xs : List V) (post : List V) (r : R) : Prop :=
  ∀ (St : Nat → Nat → Prop) (w : World) (vs1 vs2 : List Value) (u : Value), (∀ b o, St b o → b < w.heap.size) → (∀ g cs, Γ g = some cs → repA St (rdW w) cs g 0) → repT St (rdW w) pre vs1 → repT St (rdW w) post vs2 →
    0 < es → (∃ cs, w.ownsRow 0 e es u xs.length cs ∧ repEs St (rdW w) es xs cs) → u.oneCell' = true → (∀ b, u.ownBlock = some b → b < w.heap.size ∧ ∀ o, ¬ St b o) →
    Calls P f (vs1 ++ u :: vs2).toArray w fun en w' => ∃ v St' bl, en = .returned v ∧ Stp (fun b => u.ownBlock = some b) w w' ∧ (∀ b o, St b o → St' b o) ∧ (∀ b o, St' b o → St b o ∨ w.heap.size ≤ b ∨ u.ownBlock = some b) ∧ (∀ b o, St' b o → b < w'.heap.size) ∧ bl.Nodup ∧ (∀ b ∈ bl, w.heap.size ≤ b ∨ u.ownBlock = some b) ∧ repR St' w' 0 r v bl
def SpecN (P : Program) (Γ : Nat → Option (List V)) (f : FuncId) (pre post : List V) (r : R) : Prop :=
  ∀ (St : Nat → Nat → Prop) (w : World) (vs1 vs2 : List Value), (∀ b o, St b o → b < w.heap.size) → (∀ g cs, Γ g = some cs → repA St (rdW w) cs g 0) → repT St (rdW w) pre vs1 → repT St (rdW w) post vs2 →
    Calls P f (vs1 ++ .slice none 0 0 :: vs2).toArray w fun e w' => ∃ v St' bl, e = .returned v ∧ RowKit.Below w.heap.size w w' ∧ (∀ b o, St b o → St' b o) ∧ (∀ b o, St' b o → St b o ∨ w.heap.size ≤ b) ∧ (∀ b o, St' b o → b < w'.heap.size) ∧ bl.Nodup ∧ repR St' w' w.heap.size r v bl
def Spec (P : Program) (Γ : Nat → Option (List V)) (f : FuncId) (args : List V) (r : R) : Prop :=
  Enters P f ∧ SpecP P Γ f args r ∧ (∀ pre e es xs post, args = pre ++ oV e es xs :: post → noOwn pre = true → noOwn post = true → SpecO P Γ f pre e es xs post r) ∧ ∀ pre post, args = pre ++ nilV :: post → noOwn pre = true → noOwn post = true → SpecN P Γ f pre post r
theorem noOwn_not {pre post : List V} {e : TypeId} {es : Nat} {xs : List V} (h : noOwn (pre ++ oV e es xs :: post) = true) : False := by
  simp [noOwn, oV, V.isO] at h
theorem noNil_not {pre post : List V} (h : noOwn (pre ++ nilV :: post) = true) : False := by
  simp [noOwn, nilV, V.isO] at h
theorem spec_pure {P : Program} {f : FuncId} {args : List V} {r : R} (hno : noOwn args = true) (he : Enters P f) (h : SpecP P Γ f args r) : Spec P Γ f args r :=
  ⟨he, h, fun pre e es xs post ha _ _ => by subst ha; exact (noOwn_not hno).elim, fun pre post ha _ _ => by subst ha; exact (noNil_not hno).elim⟩

theorem enters_of {f : FuncId} {fn : Func} (h : P.funcs[f]? = some fn) (h1 : fn.name ≠ "runtime.NumGoroutine") {c : Code} (h2 : fn.body = some c) : Enters P f := fun args w => by
  simp [callFunc, h, h1, h2]

theorem RepD.moreS (h : RepD Γ X N ds σ a w G St own) {St' : Nat → Nat → Prop} (h1 : ∀ b o, St b o → St' b o) (hn : ∀ b o, St' b o → X.St0 b o ∨ own b) (old : ∀ t b o, blkOf σ.mem G t = some b → St' b o → St b o) (h4 : ∀ b o, St' b o → b < w.heap.size) :
    RepD Γ X N ds σ a w G St' own := by
  have hrf := Refs.refl σ.mem G
  have hrd : ∀ b o, St b o → rdW w b o = rdW w b o := fun _ _ _ => rfl
  exact { h with
    inv := h.inv_more h1
    st0 := fun b o hb => h1 b o (h.st0 b o hb)
    stn := hn
    stlt := h4
    glob := fun g cs hg => repA_mono h1 hrd cs g 0 (h.glob g cs hg)
    slots := fun t => repLv_mono hrf h1 hrd _ _ (h.slots t)
    virts := fun t l hb => repLv_mono hrf h1 hrd _ _ (h.virts t l hb)
    boxes := fun t n hb => by
      obtain ⟨cs, e, p, q, r⟩ := h.boxes t n hb
      refine ⟨cs, e, p, q, fun j hj => ?_⟩
      obtain ⟨l, v, r1, r2, r3, r4⟩ := r j hj
      exact ⟨l, v, r1, r2, repLv_mono hrf h1 hrd _ _ r3, r4⟩
    arrs := fun t g e es xs hb => by
      obtain ⟨h0, vs, p, q⟩ := h.arrs t g e es xs hb
      exact ⟨h0, vs, p, repEs_mono h1 hrd q⟩
    sbox := fun t n hb hf o ho => h.sbox t n hb hf o (old t _ o (h.blkB hb) ho)
    sarr := fun t g e es xs b hb hv => ⟨fun hf o ho => (h.sarr t g e es xs b hb hv).1 hf o (old t b o (by rw [h.blkA hb]; exact hv) ho), fun o hlo ho => (h.sarr t g e es xs b hb hv).2 o hlo (old t b o (by rw [h.blkA hb]; exact hv) ho)⟩ }

theorem RepD.more (h : RepD Γ X N ds σ a w G St own) {St' : Nat → Nat → Prop} {m : Nat} (h1 : ∀ b o, St b o → St' b o) (h2 : ∀ b o, St' b o → St b o ∨ m ≤ b) (h3 : ∀ t b, blkOf σ.mem G t = some b → b < m) (hB : ∀ b, m ≤ b → b < w.heap.size → own b) (h4 : ∀ b o, St' b o → b < w.heap.size) :
    RepD Γ X N ds σ a w G St' own := by
  refine h.moreS h1 (fun b o hb => ?_) (fun t b o hb ho => ?_) h4
  · rcases h2 b o hb with hb' | hb'
    · exact h.stn b o hb'
    · exact .inr (hB b hb' (h4 b o hb))
  · rcases h2 b o ho with ho | ho
    · exact ho
    · have := h3 t b hb; omega

structure Adds (σ σ' : VS) (G G' : GG) (i i' d : Nat) (bl : List Nat) : Prop where
  get : σ'.get = σ.get
  refs : Refs σ.mem G σ'.mem G'
  blk : ∀ t b, blkOf σ'.mem G' t = some b → blkOf σ.mem G t = some b ∨ b ∈ bl
  fr : ∀ j, i' ≤ j → fresh σ (siteN d j) = true → fresh σ' (siteN d j) = true
  le : i ≤ i'

theorem siteN_inj {d i j : Nat} (h : siteN d i = siteN d j) : i = j := by
  unfold siteN at h
  split at h <;> split at h <;> omega

theorem Refs.trans {m1 m2 m3 : Key → M} {G1 G2 G3 : GG} (h : Refs m1 G1 m2 G2) (k : Refs m2 G2 m3 G3) : Refs m1 G1 m3 G3 where
  b t n hb := by
    obtain ⟨p, q⟩ := h.b t n hb
    obtain ⟨p', q'⟩ := k.b t n p
    exact ⟨p', q'.trans q⟩
  a t g e es xs ha := by
    obtain ⟨g2, e2, es2, xs2, p, q⟩ := h.a t g e es xs ha
    obtain ⟨g3, e3, es3, xs3, p', q'⟩ := k.a t g2 e2 es2 xs2 p
    refine ⟨g3, e3, es3, xs3, p', ?_⟩
    rcases q with q | ⟨q1, q2, q3, q4⟩ <;> rcases q' with q' | ⟨q1', q2', q3', q4'⟩
    · left; omega
    · left; omega
    · left; omega
    · exact .inr ⟨by omega, by omega, by omega, q4'.trans q4⟩
theorem Adds.trans {σ1 σ2 σ3 : VS} {G1 G2 G3 : GG} {i j k d : Nat} {b1 b2 : List Nat} (h : Adds σ1 σ2 G1 G2 i j d b1) (h' : Adds σ2 σ3 G2 G3 j k d b2) : Adds σ1 σ3 G1 G3 i k d (b1 ++ b2) where
  get := h'.get.trans h.get
  refs := h.refs.trans h'.refs
  blk t b hb := by
    rcases h'.blk t b hb with p | p
    · rcases h.blk t b p with q | q
      · exact .inl q
      · exact .inr (List.mem_append_left _ q)
    · exact .inr (List.mem_append_right _ p)
  fr m hm hf := h'.fr m hm (h.fr m (by have := h'.le; omega) hf)
  le := Nat.le_trans h.le h'.le

theorem RepD.addRC (h : RepD Γ X N ds σ a w G St own) {B d i : Nat} {r : RC} {u : Value} {bl : List Nat} (hr : repRC St w B r u bl) (hb : ∀ b ∈ bl, own b ∧ ∀ t, blkOf σ.mem G t ≠ some b) (hf : ∀ j, i ≤ j → j < (r.toL d i).2.1 → fresh σ (siteN d j) = true) :
    ∃ G', RepD Γ X N ds (σ.upd (r.toL d i).2.2) a w G' St own ∧ repLv (σ.upd (r.toL d i).2.2).mem G' St (rdW w) (r.toL d i).1 u ∧ Adds σ (σ.upd (r.toL d i).2.2) G G' i (r.toL d i).2.1 d bl := by
  cases r with
  | p v =>
    simp only [repRC] at hr
    exact ⟨G, h, by simp only [RC.toL, repLv]; exact hr.1, rfl, .refl _ _, fun t b h => .inl h, fun j _ hj => hj, Nat.le_refl _⟩
  | nilS =>
    simp only [repRC] at hr
    exact ⟨G, h, by simp only [RC.toL, repLv]; exact hr.1, rfl, .refl _ _, fun t b h => .inl h, fun j _ hj => hj, Nat.le_refl _⟩
  | e0 =>
    simp only [repRC] at hr
    exact ⟨G, h, by simp only [RC.toL, repLv]; exact hr.1, rfl, .refl _ _, fun t b h => .inl h, fun j _ hj => hj, Nat.le_refl _⟩
  | arr e es xs =>
    simp only [repRC] at hr
    obtain ⟨h0, ⟨vs, ho, hE⟩, hbl, hnb⟩ := hr
    have hfr := hf i (Nat.le_refl _) (by simp [RC.toL])
    obtain ⟨hfb, hfa⟩ := fresh_iff.1 hfr
    have hmem : ∀ b, u.ownBlock = some b → b ∈ bl := fun b hb => by rw [hbl, hb]; simp
    have hn := h.newArr hfr h0 ho hE (fun b hb' => ⟨(hb b (hmem b hb')).1, (hb b (hmem b hb')).2, (hnb b (hmem b hb')).2.2⟩)
    refine ⟨_, hn, ?_, rfl, ?_, fun t b hbk => ?_, fun j hj hjf => ?_, by simp [RC.toL]⟩
    · simp only [RC.toL, repLv]
      refine ⟨0, e, es, xs, by simp [VS.upd, look], Nat.le_refl _, ?_, fun _ => by simp⟩
      rcases ho.2 with ⟨p1, _⟩ | ⟨blk, cap, cur, p1, _⟩ <;> rw [p1] <;> rfl
    · simp only [RC.toL]
      exact {
        b := fun t n hb => ⟨by simp [VS.upd, look, hb], rfl⟩
        a := fun t g e' es' xs' ha => by
          have : t ≠ siteN d i := fun e0 => by rw [e0, hfa] at ha; cases ha
          exact ⟨g, e', es', xs', by simp [VS.upd, look, this, ha], .inr ⟨rfl, rfl, rfl, by simp [this]⟩⟩ }
    · simp only [RC.toL] at hbk
      unfold blkOf at hbk
      by_cases ht : t = siteN d i
      · subst ht
        simp [VS.upd, look, hfb] at hbk
        exact .inr (hmem b hbk)
      · left; unfold blkOf; simpa [VS.upd, look, ht] using hbk
    · simp only [RC.toL] at hj ⊢
      have hne : siteN d j ≠ siteN d i := fun e0 => by have := siteN_inj e0; omega
      obtain ⟨p, q⟩ := fresh_iff.1 hjf
      exact fresh_iff.2 ⟨by simp [VS.upd, look, p], by simp [VS.upd, look, q, hne]⟩

theorem toL_le (d : Nat) : ∀ (rs : List RC) (i : Nat), i ≤ (rcsToL d i rs).2.1
  | [], i => Nat.le_refl _
  | r :: rs, i => by
    simp only [rcsToL]
    have h1 : i ≤ (r.toL d i).2.1 := by cases r <;> simp [RC.toL]
    exact Nat.le_trans h1 (toL_le d rs _)

theorem RepD.addRCs {B d : Nat} : ∀ {rs : List RC} {i : Nat} {us : List Value} {bl : List Nat} {σ : VS} {G : GG}, RepD Γ X N ds σ a w G St own → repRCs St w B rs us bl → bl.Nodup → (∀ b ∈ bl, own b ∧ ∀ t, blkOf σ.mem G t ≠ some b) → (∀ j, i ≤ j → j < (rcsToL d i rs).2.1 → fresh σ (siteN d j) = true) →
    ∃ G', RepD Γ X N ds (σ.upd (rcsToL d i rs).2.2) a w G' St own ∧ repLs (σ.upd (rcsToL d i rs).2.2).mem G' St (rdW w) (rcsToL d i rs).1 us ∧ (∀ u ∈ us, u.oneCell' = true) ∧ Adds σ (σ.upd (rcsToL d i rs).2.2) G G' i (rcsToL d i rs).2.1 d bl
  | [], i, us, bl, σ, G, h, hr, _, _, _ => by
    simp only [repRCs] at hr
    obtain ⟨rfl, rfl⟩ := hr
    exact ⟨G, h, by simp [rcsToL, repLs], by simp, rfl, .refl _ _, fun t b h => .inl h, fun j _ hj => hj, Nat.le_refl _⟩
  | r :: rs, i, us, bl, σ, G, h, hr, hnd, hb, hf => by
    simp only [repRCs] at hr
    obtain ⟨v, vr, b1, b2, rfl, rfl, ho, h1, h2⟩ := hr
    simp only [rcsToL] at hf ⊢
    have hle := toL_le d rs (r.toL d i).2.1
    obtain ⟨G1, k1, k2, k3⟩ := h.addRC h1 (fun b hbb => hb b (List.mem_append_left _ hbb)) (fun j hj hj2 => hf j hj (by omega))
    have hil := k3.le
    obtain ⟨G2, m1, m2, m3, m4⟩ := RepD.addRCs k1 h2 (List.nodup_append.1 hnd).2.1 (fun b hbb => ⟨(hb b (List.mem_append_right _ hbb)).1, fun t ht => by
      rcases k3.blk t b ht with p | p
      · exact (hb b (List.mem_append_right _ hbb)).2 t p
      · exact (List.nodup_append.1 hnd).2.2 b p b hbb rfl⟩) (fun j hj hj2 => k3.fr j hj (hf j (by omega) hj2))
    rw [upd_upd] at m1 m2 m4
    refine ⟨G2, m1, ?_, fun u hu => ?_, k3.trans m4⟩
    · simp only [repLs]
      refine ⟨v, vr, rfl, ?_, m2⟩
      have := repLv_mono m4.refs (fun _ _ h => h) (fun _ _ _ => rfl) _ _ k2
      exact this
    · rcases List.mem_cons.1 hu with rfl | hu
      · exact ho
      · exact m3 u hu

theorem RepD.addR1 (h : RepD Γ X N ds σ a w G St own) {B d i : Nat} {r : R1} {u : Value} {bl : List Nat} (hr : repR1 St w B r u bl) (hnd : bl.Nodup) (hb : ∀ b ∈ bl, own b ∧ ∀ t, blkOf σ.mem G t ≠ some b) (hf : ∀ j, i ≤ j → j < (r.toL d i).2.1 → fresh σ (siteN d j) = true) :
    ∃ G', RepD Γ X N ds (σ.upd (r.toL d i).2.2) a w G' St own ∧ repLv (σ.upd (r.toL d i).2.2).mem G' St (rdW w) (r.toL d i).1 u ∧ Adds σ (σ.upd (r.toL d i).2.2) G G' i (r.toL d i).2.1 d bl := by
  cases r with
  | c r => exact h.addRC hr hb hf
  | agg rs =>
    simp only [repR1] at hr
    obtain ⟨vs, rfl, hr⟩ := hr
    simp only [R1.toL] at hf ⊢
    obtain ⟨G1, k1, k2, k3, k4⟩ := RepD.addRCs h hr hnd hb hf
    refine ⟨G1, k1, ?_, k4⟩
    have := repLv_mkAgg k2 k3
    simpa using this

theorem r1sToL_le (d : Nat) : ∀ (rs : List R1) (i : Nat), i ≤ (r1sToL d i rs).2.1
  | [], i => Nat.le_refl _
  | r :: rs, i => by
    simp only [r1sToL]
    have h1 : i ≤ (r.toL d i).2.1 := by
      cases r with
      | c r => cases r <;> simp [R1.toL, RC.toL]
      | agg rs => exact toL_le d rs i
    exact Nat.le_trans h1 (r1sToL_le d rs _)

theorem RepD.addR1s {B d : Nat} : ∀ {rs : List R1} {i : Nat} {us : List Value} {bl : List Nat} {σ : VS} {G : GG}, RepD Γ X N ds σ a w G St own → repR1s St w B rs us bl → bl.Nodup → (∀ b ∈ bl, own b ∧ ∀ t, blkOf σ.mem G t ≠ some b) → (∀ j, i ≤ j → j < (r1sToL d i rs).2.1 → fresh σ (siteN d j) = true) →
    ∃ G', RepD Γ X N ds (σ.upd (r1sToL d i rs).2.2) a w G' St own ∧ repLs (σ.upd (r1sToL d i rs).2.2).mem G' St (rdW w) (r1sToL d i rs).1 us ∧ Adds σ (σ.upd (r1sToL d i rs).2.2) G G' i (r1sToL d i rs).2.1 d bl
  | [], i, us, bl, σ, G, h, hr, _, _, _ => by
    simp only [repR1s] at hr
    obtain ⟨rfl, rfl⟩ := hr
    exact ⟨G, h, by simp [r1sToL, repLs], rfl, .refl _ _, fun t b h => .inl h, fun j _ hj => hj, Nat.le_refl _⟩
  | r :: rs, i, us, bl, σ, G, h, hr, hnd, hb, hf => by
    simp only [repR1s] at hr
    obtain ⟨v, vr, b1, b2, rfl, rfl, h1, h2⟩ := hr
    simp only [r1sToL] at hf ⊢
    have hle := r1sToL_le d rs (r.toL d i).2.1
    obtain ⟨G1, k1, k2, k3⟩ := h.addR1 h1 (List.nodup_append.1 hnd).1 (fun b hbb => hb b (List.mem_append_left _ hbb)) (fun j hj hj2 => hf j hj (by omega))
    have hil := k3.le
    obtain ⟨G2, m1, m2, m4⟩ := RepD.addR1s k1 h2 (List.nodup_append.1 hnd).2.1 (fun b hbb => ⟨(hb b (List.mem_append_right _ hbb)).1, fun t ht => by
      rcases k3.blk t b ht with p | p
      · exact (hb b (List.mem_append_right _ hbb)).2 t p
      · exact (List.nodup_append.1 hnd).2.2 b p b hbb rfl⟩) (fun j hj hj2 => k3.fr j hj (hf j (by omega) hj2))
    rw [upd_upd] at m1 m2 m4
    refine ⟨G2, m1, ?_, k3.trans m4⟩
    simp only [repLs]
    exact ⟨v, vr, rfl, repLv_mono m4.refs (fun _ _ h => h) (fun _ _ _ => rfl) _ _ k2, m2⟩

def R.cnt (d : Nat) : R → Nat
  | .one r => (r.toL d 0).2.1
  | .tup rs => (r1sToL d 0 rs).2.1
theorem RepD.addR (h : RepD Γ X N ds σ a w G St own) {B d : Nat} {r : R} {u : Value} {bl : List Nat} (hr : repR St w B r u bl) (hnd : bl.Nodup) (hb : ∀ b ∈ bl, own b ∧ ∀ t, blkOf σ.mem G t ≠ some b) (hf : ∀ j, j < r.cnt d → fresh σ (siteN d j) = true) :
    ∃ G', RepD Γ X N ds (σ.upd (r.toL d).2) a w G' St own ∧ repLv (σ.upd (r.toL d).2).mem G' St (rdW w) (r.toL d).1 u := by
  cases r with
  | one r =>
    obtain ⟨G1, k1, k2, _⟩ := h.addR1 (i := 0) hr hnd hb (fun j _ hj => hf j hj)
    exact ⟨G1, k1, k2⟩
  | tup rs =>
    simp only [repR] at hr
    obtain ⟨vs, rfl, hr⟩ := hr
    obtain ⟨G1, k1, k2, _⟩ := RepD.addR1s (i := 0) h hr hnd hb (fun j _ hj => hf j hj)
    refine ⟨G1, k1, ?_⟩
    simp only [R.toL, repLv]
    exact ⟨vs, rfl, k2⟩
end Go.Vm

namespace Go.Vm
variable {Γ : Nat → Option (List V)} {X : Ctx} {N : Nat} {ds : List Deferred} {σ : VS} {a : Act} {w w' : World} {G G' : GG} {St St' : Nat → Nat → Prop} {own : Nat → Prop} {P : Program} {K : Eff → Prop} {Sp : FuncId → List V → R → Prop}

def Rp (Γ : Nat → Option (List V)) (X : Ctx) (N : Nat) (ds : List Deferred) (σ : VS) (a : Act) (w : World) : Prop := ∃ G St own, RepD Γ X N ds σ a w G St own

def fr (ro : Option Nat) : Fence := { Fence.wide with round := ro }

def OpDone (P : Program) (Γ : Nat → Option (List V)) (X : Ctx) (N : Nat) (ds : List Deferred) (σ : VS) (a : Act) (w : World) (o : Oper) (K : Eff → Prop) : Prop :=
  ∃ e, K e ∧ ∀ (ro : Option Nat) (n : Nat) (next : Act → World → Prop) (Q : Exit → Act → World → Prop), (∀ a' w', Rp Γ X N ds (σ.apply o.dst e) a' w' → next a' w') → o.wpIn (fr ro) n P a w next Q

theorem OpDone.of_makes {o : Oper} {s : Sem Value} (hm : Makes P Γ X N ds σ a w s K) (hd : ∀ d, o.dst = some d → d < N) (hx : execOp a.eval o = (do pure (.value (← s)))) (hdf : ∀ c, o.op ≠ .defer c) : OpDone P Γ X N ds σ a w o K := by
  obtain ⟨e, u, w1, hK, hr, G', St', own', hR, hv⟩ := hm
  refine ⟨e, hK, fun ro n next Q hn => ⟨fun _ _ => trivial, ?_⟩⟩
  rw [Oper.semAt_eq _ _ _ hdf, hx, Sem.run_bind, hr]
  exact hn _ _ ⟨G', St', own', hR.putO hd hv⟩
theorem OpDone.of_gives {o : Oper} {s : Sem Value} (h : RepD Γ X N ds σ a w G St own) (hm : Gives P σ G St w s K) (hd : ∀ d, o.dst = some d → d < N) (hx : execOp a.eval o = (do pure (.value (← s)))) (hdf : ∀ c, o.op ≠ .defer c) : OpDone P Γ X N ds σ a w o K :=
  .of_makes (hm.makes h) hd hx hdf
theorem OpDone.of_val {o : Oper} (h : RepD Γ X N ds σ a w G St own) {l : L} {u : Value} {e : Eff} (hK : K e) (hw : e.wr = []) (hl : e.val = l) (hv : repLv σ.mem G St (rdW w) l u) (hd : ∀ d, o.dst = some d → d < N) (hx : (execOp a.eval o).run P w = .ok (.value u) w) (hdf : ∀ c, o.op ≠ .defer c) : OpDone P Γ X N ds σ a w o K := by
  refine ⟨e, hK, fun ro n next Q hn => ⟨fun _ _ => trivial, ?_⟩⟩
  rw [Oper.semAt_eq _ _ _ hdf, hx]
  have : (σ.apply o.dst e) = σ.putO o.dst l := by unfold VS.apply; rw [hw, hl]; rfl
  exact hn _ _ ⟨G, St, own, by rw [this]; exact h.putO hd hv⟩

theorem repRC_bl {B : Nat} {r : RC} {u : Value} {bl : List Nat} (h : repRC St w B r u bl) : ∀ b ∈ bl, B ≤ b ∧ b < w.heap.size := by
  cases r with
  | p v => simp only [repRC] at h; rw [h.2]; simp
  | nilS => simp only [repRC] at h; rw [h.2]; simp
  | e0 => simp only [repRC] at h; rw [h.2]; simp
  | arr e es xs => simp only [repRC] at h; exact fun b hb => ⟨(h.2.2.2 b hb).1, (h.2.2.2 b hb).2.1⟩
theorem repRCs_bl {B : Nat} : ∀ {rs : List RC} {us : List Value} {bl : List Nat}, repRCs St w B rs us bl → ∀ b ∈ bl, B ≤ b ∧ b < w.heap.size
  | [], us, bl, h => by simp only [repRCs] at h; rw [h.2]; simp
  | r :: rs, us, bl, h => by
    simp only [repRCs] at h
    obtain ⟨v, vr, b1, b2, rfl, rfl, _, h1, h2⟩ := h
    intro b hb
    rcases List.mem_append.1 hb with hb | hb
    · exact repRC_bl h1 b hb
    · exact repRCs_bl h2 b hb
theorem repR1ubl {B : Nat} {r : R1} {u : Value} {bl : List Nat} (h : repR1 St w B r u bl) : ∀ b ∈ bl, B ≤ b ∧ b < w.heap.size := by
  cases r with
  | c r => exact repRC_bl h
  | agg rs => simp only [repR1] at h; obtain ⟨vs, _, h⟩ := h; exact repRCs_bl h
theorem repR1s_bl {B : Nat} : ∀ {rs : List R1} {us : List Value} {bl : List Nat}, repR1s St w B rs us bl → ∀ b ∈ bl, B ≤ b ∧ b < w.heap.size
  | [], us, bl, h => by simp only [repR1s] at h; rw [h.2]; simp
  | r :: rs, us, bl, h => by
    simp only [repR1s] at h
    obtain ⟨v, vr, b1, b2, rfl, rfl, h1, h2⟩ := h
    intro b hb
    rcases List.mem_append.1 hb with hb | hb
    · exact repR1ubl h1 b hb
    · exact repR1s_bl h2 b hb
theorem repR_bl {B : Nat} {r : R} {u : Value} {bl : List Nat} (h : repR St w B r u bl) : ∀ b ∈ bl, B ≤ b ∧ b < w.heap.size := by
  cases r with
  | one r => exact repR1ubl h
  | tup rs => simp only [repR] at h; obtain ⟨vs, _, h⟩ := h; exact repR1s_bl h

theorem rc_sites {d i : Nat} {r : RC} : ∀ j, i ≤ j → j < (r.toL d i).2.1 → ∃ m, (Key.a (siteN d j), m) ∈ (r.toL d i).2.2 := by
  cases r with
  | arr e es xs =>
    intro j h1 h2
    simp only [RC.toL] at h2 ⊢
    obtain rfl : j = i := by omega
    exact ⟨.arr 0 e es xs, by simp⟩
  | _ => intro j h1 h2; simp only [RC.toL] at h2; omega
theorem rcs_sites {d : Nat} : ∀ {rs : List RC} {i : Nat} (j : Nat), i ≤ j → j < (rcsToL d i rs).2.1 → ∃ m, (Key.a (siteN d j), m) ∈ (rcsToL d i rs).2.2
  | [], i, j, h1, h2 => by simp only [rcsToL] at h2; omega
  | r :: rs, i, j, h1, h2 => by
    simp only [rcsToL] at h2 ⊢
    by_cases h : j < (r.toL d i).2.1
    · obtain ⟨m, hm⟩ := rc_sites j h1 h; exact ⟨m, List.mem_append_right _ hm⟩
    · obtain ⟨m, hm⟩ := rcs_sites (rs := rs) j (by omega) h2; exact ⟨m, List.mem_append_left _ hm⟩
theorem r1usites {d i : Nat} {r : R1} : ∀ j, i ≤ j → j < (r.toL d i).2.1 → ∃ m, (Key.a (siteN d j), m) ∈ (r.toL d i).2.2 := by
  cases r with
  | c r => exact rc_sites
  | agg rs => exact rcs_sites
theorem r1s_sites {d : Nat} : ∀ {rs : List R1} {i : Nat} (j : Nat), i ≤ j → j < (r1sToL d i rs).2.1 → ∃ m, (Key.a (siteN d j), m) ∈ (r1sToL d i rs).2.2
  | [], i, j, h1, h2 => by simp only [r1sToL] at h2; omega
  | r :: rs, i, j, h1, h2 => by
    simp only [r1sToL] at h2 ⊢
    by_cases h : j < (r.toL d i).2.1
    · obtain ⟨m, hm⟩ := r1usites j h1 h; exact ⟨m, List.mem_append_right _ hm⟩
    · obtain ⟨m, hm⟩ := r1s_sites (rs := rs) j (by omega) h2; exact ⟨m, List.mem_append_left _ hm⟩
theorem r_sites {d : Nat} {r : R} : ∀ j, j < r.cnt d → ∃ m, (Key.a (siteN d j), m) ∈ (r.toL d).2 := by
  cases r with
  | one r => exact fun j h => r1usites j (Nat.zero_le _) h
  | tup rs => exact fun j h => r1s_sites j (Nat.zero_le _) h
theorem fresh_frzs {fz : List Nat} {t : Nat} (h : fresh σ t = true) : fresh (σ.upd (frzs fz)) t = true := by
  obtain ⟨f1, f2⟩ := fresh_iff.1 h
  exact fresh_iff.2 ⟨by rw [← f1]; exact look_frzs (by simp), by rw [← f2]; exact look_frzs (by simp)⟩

theorem RepD.callP (hSp : ∀ f args r, Sp f args r → Spec P Γ f args r) (h : RepD Γ X N ds σ a w G St own) {o : Oper} {f : Operand} {args : Array Operand} {ats : Array TypeId} (ho : o.op = .call ⟨.value f, args, ats⟩) (hd : ∀ d, o.dst = some d → d < N)
    (hk : vcallP Sp σ o.dst (σ.ev Γ f) (args.toList.map (σ.ev Γ)) K) : OpDone P Γ X N ds σ a w o K := by
  unfold vcallP at hk
  split at hk
  · rename_i g first caps hf
    obtain ⟨q, hq, hk⟩ := wantO_iff.1 hk
    obtain ⟨r, hr, hk⟩ := hk
    have hfv := h.ev (Γ := Γ) f
    rw [hf] at hfv
    obtain ⟨p1, p2⟩ := pval hfv
    simp only [repC] at p1
    obtain ⟨a1, a2, e1, t1, t2⟩ := p1
    have efv := val_of_one e1 p2
    have hargs := h.evs (Γ := Γ) args.toList
    have hF := h.frz q.fz
    have hT := h.pubs hq hargs (fz := q.fz) fun _ h => h
    have up : ∀ b o, St b o → stF σ G St q.fz b o := fun _ _ h => .inl h
    have same : ∀ b o, St b o → rdW w b o = rdW w b o := fun _ _ _ => rfl
    have hall : repT (stF σ G St q.fz) (rdW w) (first ++ q.vs ++ caps) (a1.toList ++ args.toList.map a.eval ++ a2.toList) := by
      have app : ∀ {x y : List V} {l m : List Value}, repT (stF σ G St q.fz) (rdW w) x l → repT (stF σ G St q.fz) (rdW w) y m → repT (stF σ G St q.fz) (rdW w) (x ++ y) (l ++ m) := by
        intro x
        induction x with
        | nil => intro y l m h k; simp only [repT] at h; subst h; exact k
        | cons c cs ih =>
          intro y l m h k
          simp only [repT] at h
          obtain ⟨v, r, rfl, p, q⟩ := h
          simp only [List.cons_append, repT]
          exact ⟨v, r ++ m, rfl, p, ih q k⟩
      exact app (app (repT_mono up same _ _ t1) hT) (repT_mono up same _ _ t2)
    obtain ⟨hent, hspec, _⟩ := hSp _ _ _ hr
    have hcall := hspec _ w _ hF.stlt hF.glob hall
    have hrun : ∀ ro : Option Nat, (o.semAt ro a.eval).run P w = .ok (.enter g (a1 ++ (args.map a.eval) ++ a2)) w := fun ro => by
      rw [Oper.semAt_eq _ _ _ (by rw [ho]; simp)]
      obtain ⟨dst, op, ty, pos, af, gd⟩ := o
      simp only at ho
      subst ho
      simp only [execOp, resolve, efv, Deferred.ofValue, Sem.run_bind, Sem.run_pure, Result.andThen_ok, invoke]
      exact hent _ _
    have harr : (a1.toList ++ args.toList.map a.eval ++ a2.toList).toArray = a1 ++ (args.map a.eval) ++ a2 := by
      apply Array.toList_inj.1; simp
    rw [harr] at hcall
    -- the frame behind the call
    have behind : ∀ {d : Nat} {w'' : World} {v : Value} {St2 : Nat → Nat → Prop} {bl : List Nat}, RowKit.Below w.heap.size w w'' → (∀ b o, stF σ G St q.fz b o → St2 b o) → (∀ b o, St2 b o → stF σ G St q.fz b o ∨ w.heap.size ≤ b) → (∀ b o, St2 b o → b < w''.heap.size) → bl.Nodup → repR St2 w'' w.heap.size r v bl →
        (∀ j, j < r.cnt d → fresh (σ.upd (frzs q.fz)) (siteN d j) = true) → ∃ G2 own2, RepD Γ X N ds (σ.upd ((r.toL d).2 ++ frzs q.fz)) a w'' G2 St2 own2 ∧ repLv (σ.upd ((r.toL d).2 ++ frzs q.fz)).mem G2 St2 (rdW w'') (r.toL d).1 v := by
      intro d w'' v St2 bl hbel s1 s2 s3 hnd hrr hfr
      have h1 := hF.ext (Stp.of_below hbel)
      have hlt : ∀ t b, blkOf (σ.upd (frzs q.fz)).mem G t = some b → b < w.heap.size := fun t b hb => hF.blk_lt hb
      have h2 := h1.more s1 s2 hlt (fun b p q => .inr ⟨p, q⟩) s3
      have hbl : ∀ b ∈ bl, w.heap.size ≤ b ∧ b < w''.heap.size := repR_bl hrr
      obtain ⟨G2, k1, k2⟩ := h2.addR hrr hnd (fun b hb => ⟨.inr (hbl b hb), fun t ht => by have := hlt t b ht; have := (hbl b hb).1; omega⟩) hfr
      rw [upd_upd] at k1 k2
      exact ⟨G2, _, k1, k2⟩
    -- the operation
    have enter : ∀ (ro : Option Nat) (n : Nat) (next : Act → World → Prop) (Q : Exit → Act → World → Prop), (∀ (v : Value) (w'' : World) (St2 : Nat → Nat → Prop) (bl : List Nat), RowKit.Below w.heap.size w w'' → (∀ b o, stF σ G St q.fz b o → St2 b o) → (∀ b o, St2 b o → stF σ G St q.fz b o ∨ w.heap.size ≤ b) → (∀ b o, St2 b o → b < w''.heap.size) → bl.Nodup → repR St2 w'' w.heap.size r v bl → next (a.put o.dst v) w'') → o.wpIn (fr ro) n P a w next Q := by
      intro ro n next Q hn
      refine ⟨fun _ _ => trivial, ?_⟩
      show o.uponIn (fr ro) n P a next Q ((o.semAt ro a.eval).run P w)
      rw [hrun]
      refine ⟨fun h => by simp [fr, Fence.wide] at h, ?_⟩
      have hc : CallsIn Fence.wide (n - 1) P g (a1 ++ (args.map a.eval) ++ a2) w _ := callsIn_wide.2 hcall
      refine CallsIn.mono (F := fr ro) hc ?_
      rintro e w'' ⟨v, St2, bl, rfl, m1, m2, m3, m4, m5, m6⟩
      exact hn v w'' St2 bl m1 m2 m3 m4 m5 m6
    split at hk
    · rename_i d hdst
      obtain ⟨hall2, hK⟩ := need_iff.1 hk
      refine ⟨_, hK, fun ro n next Q hn => enter ro n next Q fun v w'' St2 bl m1 m2 m3 m4 m5 m6 => hn _ _ ?_⟩
      obtain ⟨G2, own2, k1, k2⟩ := behind (d := d) m1 m2 m3 m4 m5 m6 fun j hj => by
        obtain ⟨m, hm⟩ := r_sites j hj
        have := List.all_eq_true.1 hall2 _ hm
        simp only [Bool.and_eq_true] at this
        exact fresh_frzs this.1
      exact ⟨G2, St2, own2, k1.putO hd k2⟩
    · rename_i hdst
      obtain ⟨hnil, hK⟩ := need_iff.1 hk
      refine ⟨_, hK, fun ro n next Q hn => enter ro n next Q fun v w'' St2 bl m1 m2 m3 m4 m5 m6 => hn _ _ ?_⟩
      obtain ⟨G2, own2, k1, k2⟩ := behind (d := 0) m1 m2 m3 m4 m5 m6 fun j hj => by
        obtain ⟨m, hm⟩ := r_sites j hj
        rw [hnil] at hm; cases hm
      rw [hnil, List.nil_append] at k1 k2
      rw [hdst]
      exact ⟨G2, St2, own2, k1⟩
  · exact hk.elim

theorem repLs_mid {mem : Key → M} {rd : Nat → Nat → Option Value} {y : L} : ∀ {x z : List L} {vs : List Value}, repLs mem G St rd (x ++ y :: z) vs → ∃ v1 u v2, vs = v1 ++ u :: v2 ∧ repLs mem G St rd x v1 ∧ repLv mem G St rd y u ∧ repLs mem G St rd z v2
  | [], z, vs, h => by
    simp only [List.nil_append, repLs] at h
    obtain ⟨u, v2, rfl, p, q⟩ := h
    exact ⟨[], u, v2, rfl, by simp only [repLs], p, q⟩
  | l :: x, z, vs, h => by
    simp only [List.cons_append, repLs] at h
    obtain ⟨v, r, rfl, p, q⟩ := h
    obtain ⟨v1, u, v2, rfl, q1, q2, q3⟩ := repLs_mid q
    exact ⟨v :: v1, u, v2, rfl, by simp only [repLs]; exact ⟨v, v1, rfl, p, q1⟩, q2, q3⟩
theorem RepD.callO (hSp : ∀ f args r, Sp f args r → Spec P Γ f args r) (h : RepD Γ X N ds σ a w G St own) {o : Oper} {f : Operand} {args : Array Operand} {ats : Array TypeId} (ho : o.op = .call ⟨.value f, args, ats⟩) (hd : ∀ d, o.dst = some d → d < N)
    (hk : vcallO Sp σ o.dst (σ.ev Γ f) (args.toList.map (σ.ev Γ)) K) : OpDone P Γ X N ds σ a w o K := by
  unfold vcallO at hk
  split at hk
  · rename_i g d hf hdst
    obtain ⟨pre, t, g0, post, hargs0, hk⟩ := hk
    obtain ⟨⟨⟨e, es⟩, xs⟩, hc, hk⟩ := wantO_iff.1 hk
    obtain ⟨q1, hq1, hk⟩ := wantO_iff.1 hk
    obtain ⟨q2, hq2, hk⟩ := wantO_iff.1 hk
    obtain ⟨⟨n1, n2, n3, n4⟩, hk⟩ := need_iff.1 hk
    obtain ⟨r, hr, hk⟩ := hk
    obtain ⟨hall2, hK⟩ := need_iff.1 hk
    have hfv := h.ev (Γ := Γ) f
    rw [hf] at hfv
    obtain ⟨p1, p2⟩ := pval hfv
    simp only [repC] at p1
    obtain ⟨a1, a2, e1, t1, t2⟩ := p1
    have efv := val_of_one e1 p2
    simp only [repT] at t1 t2
    have ea1 : a1 = #[] := Array.toList_eq_nil_iff.1 t1
    have ea2 : a2 = #[] := Array.toList_eq_nil_iff.1 t2
    subst ea1; subst ea2
    have hargs := h.evs (Γ := Γ) args.toList
    rw [hargs0] at hargs
    obtain ⟨v1, u, v2, hvs, r1, r2, r3⟩ := repLs_mid hargs
    generalize hfz : q1.fz ++ q2.fz = fz at n2 hall2 hK
    have hF := h.frz fz
    have hT1 := h.pubs hq1 r1 (fz := fz) fun t ht => by rw [← hfz]; exact List.mem_append_left _ ht
    have hT2 := h.pubs hq2 r3 (fz := fz) fun t ht => by rw [← hfz]; exact List.mem_append_right _ ht
    have ha := curA_some hc
    simp only at ha
    have hu := h.arrVal ha r2
    have haF : (σ.upd (frzs fz)).mem (.a t) = .arr g0 e es xs := by rw [← ha]; exact look_frzs (by simp)
    have hfF : isNone ((σ.upd (frzs fz)).mem (.f t)) = true := by
      have : (σ.upd (frzs fz)).mem (.f t) = if t ∈ fz then .frz else σ.mem (.f t) := look_frzs_f
      rw [this, if_neg n2]; exact n1
    obtain ⟨hD, hDb⟩ := hF.dropArr haF
    obtain ⟨h0, cs, hrow, hE⟩ := hF.arrs t g0 e es xs haF
    have hO : ∀ b, u.ownBlock = some b → own b ∧ (∀ t', blkOf ((σ.upd (frzs fz)).upd [(.a t, .arr (g0 + 1) e es [])]).mem ⟨G.bk, fun k => if k = t then .slice none 0 0 else G.av k⟩ t' ≠ some b) ∧ ∀ o, ¬ stF σ G St fz b o := fun b hb => by
      rw [hu] at hb
      have hbk : blkOf (σ.upd (frzs fz)).mem G t = some b := by rw [hF.blkA haF]; exact hb
      refine ⟨hF.ownb t b hbk, fun t' ht' => ?_, (hF.sarr t g0 e es xs b haF hb).1 hfF⟩
      obtain ⟨k1, k2⟩ := hDb t' b ht'
      exact k1 (hF.disj t' t b k2 hbk)
    obtain ⟨hent, _, hspec, _⟩ := hSp _ _ _ hr
    have hcall := hspec q1.vs e es xs q2.vs rfl n3 n4 (stF σ G St fz) w v1 v2 u hF.stlt hF.glob hT1 hT2 h0 ⟨cs, by rw [hu]; exact hrow, hE⟩ (isCell_one (by rfl) r2) (fun b hb => ⟨(hF.ownlt b (hO b hb).1).1, (hO b hb).2.2⟩)
    have harr : (v1 ++ u :: v2).toArray = (args.map a.eval) := by
      apply Array.toList_inj.1; rw [← hvs]; simp
    rw [harr] at hcall
    have hrun : ∀ ro : Option Nat, (o.semAt ro a.eval).run P w = .ok (.enter g (args.map a.eval)) w := fun ro => by
      rw [Oper.semAt_eq _ _ _ (by rw [ho]; simp)]
      obtain ⟨dst, op, ty, pos, af, gd⟩ := o
      simp only at ho
      subst ho
      simp only [execOp, resolve, efv, Deferred.ofValue, Sem.run_bind, Sem.run_pure, Result.andThen_ok, invoke]
      have := hent (args.map a.eval) w
      simpa using this
    refine ⟨_, hK, fun ro n next Q hn => ⟨fun _ _ => trivial, ?_⟩⟩
    show o.uponIn (fr ro) n P a next Q ((o.semAt ro a.eval).run P w)
    rw [hrun]
    refine ⟨fun h => by simp [fr, Fence.wide] at h, ?_⟩
    have hc' : CallsIn Fence.wide (n - 1) P g (args.map a.eval) w _ := callsIn_wide.2 hcall
    refine CallsIn.mono (F := fr ro) hc' ?_
    rintro en w'' ⟨v, St2, bl, rfl, m1, m2, m3, m4, m5, m5', m6⟩
    refine hn _ _ ?_
    have hX := hD.extO m1 hO
    have hlt : ∀ t' b, blkOf ((σ.upd (frzs fz)).upd [(.a t, .arr (g0 + 1) e es [])]).mem ⟨G.bk, fun k => if k = t then .slice none 0 0 else G.av k⟩ t' = some b → b < w.heap.size := fun t' b hb => hD.blk_lt hb
    have hM := hX.moreS m2 (fun b o hb => by
        rcases m3 b o hb with p | p | p
        · exact (hX.stn b o p)
        · exact .inr (.inr ⟨p, m4 b o hb⟩)
        · exact .inr (.inl (hO b p).1))
      (fun t' b o hb ho => by
        rcases m3 b o ho with p | p | p
        · exact p
        · have := hlt t' b hb; omega
        · exact ((hO b p).2.1 t' hb).elim) m4
    have hsz : ∀ b ∈ bl, b < w''.heap.size := fun b hb => (repR_bl m6 b hb).2
    obtain ⟨G2, k1, k2⟩ := hM.addR m6 m5 (fun b hb => by
        rcases m5' b hb with p | p
        · exact ⟨.inr ⟨p, hsz b hb⟩, fun t' ht' => by have := hlt t' b ht'; omega⟩
        · exact ⟨.inl (hO b p).1, (hO b p).2.1⟩) (d := d) (fun j hj => by
        obtain ⟨m, hm⟩ := r_sites j hj
        have := List.all_eq_true.1 hall2 _ hm
        simp only [Bool.and_eq_true] at this
        obtain ⟨f1, f2⟩ := fresh_iff.1 (fresh_frzs (fz := fz) this.1)
        have hne : siteN d j ≠ t := fun e0 => by rw [← e0, f2] at haF; cases haF
        exact fresh_iff.2 ⟨by simp only [VS.upd, look, reduceCtorEq, if_false] at f1 ⊢; exact f1, by simp only [VS.upd, look, Key.a.injEq, hne, if_false] at f2 ⊢; exact f2⟩)
    rw [upd_upd, upd_upd] at k1 k2
    simp only [List.append_assoc, List.cons_append, List.nil_append] at k1 k2
    rw [hdst]
    exact ⟨G2, St2, _, k1.putO (d := some d) (fun d' h => hd d' (by rw [hdst]; exact h)) k2⟩
  · exact hk.elim
theorem RepD.callN (hSp : ∀ f args r, Sp f args r → Spec P Γ f args r) (h : RepD Γ X N ds σ a w G St own) {o : Oper} {f : Operand} {args : Array Operand} {ats : Array TypeId} (ho : o.op = .call ⟨.value f, args, ats⟩) (hd : ∀ d, o.dst = some d → d < N)
    (hk : vcallN Sp σ o.dst (σ.ev Γ f) (args.toList.map (σ.ev Γ)) K) : OpDone P Γ X N ds σ a w o K := by
  unfold vcallN at hk
  split at hk
  · rename_i g d hf hdst
    obtain ⟨pre, post, hargs0, hk⟩ := hk
    obtain ⟨q1, hq1, hk⟩ := wantO_iff.1 hk
    obtain ⟨q2, hq2, hk⟩ := wantO_iff.1 hk
    obtain ⟨⟨n3, n4⟩, hk⟩ := need_iff.1 hk
    obtain ⟨r, hr, hk⟩ := hk
    obtain ⟨hall2, hK⟩ := need_iff.1 hk
    have hfv := h.ev (Γ := Γ) f
    rw [hf] at hfv
    obtain ⟨p1, p2⟩ := pval hfv
    simp only [repC] at p1
    obtain ⟨a1, a2, e1, t1, t2⟩ := p1
    have efv := val_of_one e1 p2
    simp only [repT] at t1 t2
    have ea1 : a1 = #[] := Array.toList_eq_nil_iff.1 t1
    have ea2 : a2 = #[] := Array.toList_eq_nil_iff.1 t2
    subst ea1; subst ea2
    have hargs := h.evs (Γ := Γ) args.toList
    rw [hargs0] at hargs
    obtain ⟨v1, u, v2, hvs, r1, r2, r3⟩ := repLs_mid hargs
    simp only [repLv] at r2
    subst r2
    generalize hfz : q1.fz ++ q2.fz = fz at hall2 hK
    have hF := h.frz fz
    have hT1 := h.pubs hq1 r1 (fz := fz) fun t ht => by rw [← hfz]; exact List.mem_append_left _ ht
    have hT2 := h.pubs hq2 r3 (fz := fz) fun t ht => by rw [← hfz]; exact List.mem_append_right _ ht
    obtain ⟨hent, _, _, hspec⟩ := hSp _ _ _ hr
    have hcall := hspec q1.vs q2.vs rfl n3 n4 (stF σ G St fz) w v1 v2 hF.stlt hF.glob hT1 hT2
    have harr : (v1 ++ Value.slice none 0 0 :: v2).toArray = (args.map a.eval) := by
      apply Array.toList_inj.1; rw [← hvs]; simp
    rw [harr] at hcall
    have hrun : ∀ ro : Option Nat, (o.semAt ro a.eval).run P w = .ok (.enter g (args.map a.eval)) w := fun ro => by
      rw [Oper.semAt_eq _ _ _ (by rw [ho]; simp)]
      obtain ⟨dst, op, ty, pos, af, gd⟩ := o
      simp only at ho
      subst ho
      simp only [execOp, resolve, efv, Deferred.ofValue, Sem.run_bind, Sem.run_pure, Result.andThen_ok, invoke]
      have := hent (args.map a.eval) w
      simpa using this
    refine ⟨_, hK, fun ro n next Q hn => ⟨fun _ _ => trivial, ?_⟩⟩
    show o.uponIn (fr ro) n P a next Q ((o.semAt ro a.eval).run P w)
    rw [hrun]
    refine ⟨fun h => by simp [fr, Fence.wide] at h, ?_⟩
    have hc' : CallsIn Fence.wide (n - 1) P g (args.map a.eval) w _ := callsIn_wide.2 hcall
    refine CallsIn.mono (F := fr ro) hc' ?_
    rintro en w'' ⟨v, St2, bl, rfl, m1, m2, m3, m4, m5, m6⟩
    refine hn _ _ ?_
    have h1 := hF.ext (Stp.of_below m1)
    have hlt : ∀ t b, blkOf (σ.upd (frzs fz)).mem G t = some b → b < w.heap.size := fun t b hb => hF.blk_lt hb
    have h2 := h1.more m2 m3 hlt (fun b p q => .inr ⟨p, q⟩) m4
    have hbl : ∀ b ∈ bl, w.heap.size ≤ b ∧ b < w''.heap.size := repR_bl m6
    obtain ⟨G2, k1, k2⟩ := h2.addR m6 m5 (fun b hb => ⟨.inr (hbl b hb), fun t ht => by have := hlt t b ht; have := (hbl b hb).1; omega⟩) (d := d) fun j hj => by
      obtain ⟨m, hm⟩ := r_sites j hj
      have := List.all_eq_true.1 hall2 _ hm
      simp only [Bool.and_eq_true] at this
      exact fresh_frzs this.1
    rw [upd_upd] at k1 k2
    rw [hdst]
    exact ⟨G2, St2, _, k1.putO (d := some d) (fun d' h => hd d' (by rw [hdst]; exact h)) k2⟩
  · exact hk.elim
theorem RepD.call (hSp : ∀ f args r, Sp f args r → Spec P Γ f args r) (h : RepD Γ X N ds σ a w G St own) {o : Oper} {f : Operand} {args : Array Operand} {ats : Array TypeId} (ho : o.op = .call ⟨.value f, args, ats⟩) (hd : ∀ d, o.dst = some d → d < N)
    (hk : vcallF Sp σ o.dst (σ.ev Γ f) (args.toList.map (σ.ev Γ)) K) : OpDone P Γ X N ds σ a w o K :=
  hk.elim (h.callP hSp ho hd) fun hk => hk.elim (h.callO hSp ho hd) (h.callN hSp ho hd)

theorem isU8uiff {e : TypeId} (h : isU8 P e = true) : P.underlying e = some (.int .u8) := by
  unfold isU8 at h
  split at h <;> first | assumption | cases h
theorem RepD.conv (h : RepD Γ X N ds σ a w G St own) {s d : TypeId} {x : L} {u : Value} (hx : repLv σ.mem G St (rdW w) x u) (hk : vconv P s d x K) : Makes P Γ X N ds σ a w (convert s d u) K := by
  unfold vconv at hk
  split at hk
  · rename_i h1 h2
    refine Gives.makes h ?_
    rw [pint hx]; exact .mk hk rfl (by simp [convert, run_underlying h1, run_underlying h2, Conv.intToInt]) mk_int
  · rename_i e y h1 h2
    obtain ⟨he, hK⟩ := need_iff.1 hk
    rw [pstr hx]
    have hs : Stp (fun _ => False) w (Lib.bytesWorld w e y) := ⟨rfl, rfl, rfl, by rw [Lib.bytesWorld_size]; omega, fun k hk _ => Lib.bytesWorld_at_old w e y k hk⟩
    have h' := h.ext hs
    refine ⟨_, _, _, hK, Lib.run_convert_string_bytes w s d e y h1 h2 (isU8uiff he), G, fun b o => St b o ∨ (b = w.heap.size ∧ o < y.size), _, h'.more (m := w.heap.size) (fun _ _ h => .inl h) (fun b o hb => hb.imp id fun hb => by omega) (fun t b hb => h.blk_lt hb) (fun b p q => .inr ⟨p, q⟩) (fun b o hb => ?_), ?_⟩
    · rcases hb with hb | hb
      · exact h'.stlt b o hb
      · rw [Lib.bytesWorld_size]; omega
    · simp only [repLv]
      refine ⟨?_, rfl⟩
      simp only [repC]
      refine .inr ⟨w.heap.size, 0, _, 1, by simp [bytesV, Value.cells]; rfl, by simpa [bytesV] using grownCap_ge w y.size 0 e, repE_get.2 fun i v hi => ?_⟩
      have hlt : i < y.size := by have := (List.getElem?_eq_some_iff.1 hi).1; simpa [bytesV] using this
      refine ⟨[.int .u8 (y.data.toList.getD i 0).toNat], rfl, ?_, ?_⟩
      · have hq := Lib.bytesWorld_cell w e y i hlt
        exact ⟨⟨by rw [Nat.mul_one, Nat.zero_add]; exact hq, .inr ⟨rfl, by omega⟩⟩, trivial⟩
      · have hv : v = .i .u8 (y.data.toList.getD i 0).toNat := by
          simp only [bytesV, List.getElem?_map, Option.map_eq_some_iff] at hi
          obtain ⟨b, hb, rfl⟩ := hi
          simp [List.getD, hb]
        rw [hv]; simp only [repC]
  · exact hk.elim

theorem evL (h : RepD Γ X N ds σ a w G St own) (o : Option Operand) : match o.map (σ.ev Γ), o.map a.eval with | none, none => True | some l, some u => repLv σ.mem G St (rdW w) l u | _, _ => False := by
  cases o with
  | none => trivial
  | some x => exact h.ev x

theorem op_sound (hSp : ∀ f args r, Sp f args r → Spec P Γ f args r) (h : RepD Γ X N ds σ a w G St own) {o : Oper} (hd : ∀ d, o.dst = some d → d < N) (hk : vop P Γ Sp σ o.dst o.op K) : OpDone P Γ X N ds σ a w o K := by
  obtain ⟨dst, op, ty, pos, af, gd⟩ := o
  simp only at hd hk
  unfold vop at hk
  split at hk
  · exact .of_val h hk rfl rfl (h.ev _) hd rfl (by simp)
  · exact .of_val h hk rfl rfl (h.ev _) hd rfl (by simp)
  · rename_i c x y
    have hc := h.ev (Γ := Γ) c
    unfold vbool at hk
    split at hk
    · rename_i b hb
      rw [hb] at hc
      have hcb := pbool hc
      cases b with
      | true => exact .of_val h (hk.1 rfl) rfl rfl (h.ev _) hd (by simp [execOp, hcb, asBool]) (by simp)
      | false => exact .of_val h (hk.2 rfl) rfl rfl (h.ev _) hd (by simp [execOp, hcb, asBool]) (by simp)
    · exact hk.elim
  · obtain ⟨d, rfl, hk⟩ := wantO_iff.1 hk
    exact .of_makes (h.alloc hk) hd rfl (by simp)
  · obtain ⟨d, rfl, hk⟩ := wantO_iff.1 hk
    exact .of_makes (h.boxv (h.ev _) hk) hd rfl (by simp)
  · rename_i t ps
    refine .of_gives h (h.build (ps := ps.toList) hk) hd ?_ (by simp)
    simp only [execOp]
    congr 3
    apply Array.toList_inj.1; simp
  · rename_i t n ps
    obtain ⟨d, rfl, hk⟩ := wantO_iff.1 hk
    refine .of_makes (h.buildSl (ps := ps.toList) hk) hd ?_ (by simp)
    simp only [execOp]
    congr 3
    apply Array.toList_inj.1; simp
  · obtain ⟨e, u, hK, hw, hr, hv⟩ := h.load (h.ev _) hk
    exact .of_gives h ⟨e, u, hK, hw, hr, hv⟩ hd rfl (by simp)
  · obtain ⟨e, w1, hK, hval, hr, G', St', own', hR⟩ := h.store (h.ev _) (h.ev _) hk
    refine ⟨e, hK, fun ro n next Q hn => ⟨fun _ _ => trivial, ?_⟩⟩
    rw [Oper.semAt_eq _ _ _ (by simp)]
    simp only [execOp, Sem.run_bind, hr, Result.andThen_ok, Sem.run_pure]
    refine hn _ _ ⟨G', St', own', ?_⟩
    unfold VS.apply
    rw [hval]
    exact hR.putO hd (by simp [repLv])
  · exact .of_gives h (h.bin (h.ev _) (h.ev _) hk) hd rfl (by simp)
  · exact .of_gives h (RepD.un (h.ev _) hk) hd rfl (by simp)
  · exact .of_makes (h.conv (h.ev _) hk) hd rfl (by simp)
  · rename_i f first caps
    have h1 := h.evs (Γ := Γ) first.toList
    have h2 := h.evs (Γ := Γ) caps.toList
    refine .of_makes (h.mkFunc h1 h2 hk) hd ?_ (by simp)
    simp only [execOp]
    congr 3
    all_goals (apply Array.toList_inj.1; simp)
  · obtain ⟨d, rfl, hk⟩ := wantO_iff.1 hk
    exact .of_makes (h.makeSl (h.ev _) (h.ev _) hk) hd rfl (by simp)
  · unfold vsl at hk
    split at hk
    · exact .of_makes (h.slcW (h.ev _) (evL h _) (evL h _) (evL h _) hk) hd rfl (by simp)
    · exact .of_makes (h.slc (h.ev _) (evL h _) (evL h _) (evL h _) hk) hd rfl (by simp)
  · exact .of_gives h (h.fieldAddr (h.ev _) hk) hd rfl (by simp)
  · exact .of_gives h (h.fieldv (h.ev _) hk) hd rfl (by simp)
  · exact .of_gives h (h.indexAddr (h.ev _) (h.ev _) hk) hd rfl (by simp)
  · exact .of_gives h (h.indexv (h.ev _) (h.ev _) hk) hd rfl (by simp)
  · exact .of_gives h (RepD.extr (h.ev _) hk) hd rfl (by simp)
  · exact h.call hSp rfl hd hk
  · rename_i b args ats
    have hA : args = args.toList.toArray := by simp
    have hT : ats = ats.toList.toArray := by simp
    generalize args.toList = al at hA hk
    generalize ats.toList = tl at hT hk
    subst hA hT
    unfold vbuiltin at hk
    split at hk
    · rename_i x t
      refine .of_gives (s := Builtin.len_ #[t] ty #[a.eval x]) h (h.len (h.ev _) hk) hd ?_ (by simp)
      have e : [x].toArray.map a.eval = #[a.eval x] := by simp
      simp only [execOp, resolve, invoke, builtin, e]
      rfl
    · have h1 := h.evs (Γ := Γ) al
      refine .of_gives (s := Builtin.max_ tl.toArray ty (al.map a.eval).toArray) h ?_ hd ?_ (by simp)
      · exact RepD.minmax (P := P) (ats := tl.toArray) (ty := ty) h1 hk
      · have e : al.toArray.map a.eval = (al.map a.eval).toArray := by simp
        simp only [execOp, resolve, invoke, builtin, e]
        rfl
    · have h1 := h.evs (Γ := Γ) al
      refine .of_gives (s := Builtin.min_ tl.toArray ty (al.map a.eval).toArray) h ?_ hd ?_ (by simp)
      · exact RepD.minmax (P := P) (ats := tl.toArray) (ty := ty) h1 hk
      · have e : al.toArray.map a.eval = (al.map a.eval).toArray := by simp
        simp only [execOp, resolve, invoke, builtin, e]
        rfl
    · rename_i s x ts tx
      obtain ⟨d, rfl, hk2⟩ := wantO_iff.1 hk
      have e : [s, x].toArray.map a.eval = #[a.eval s, a.eval x] := by simp
      split at hk2
      · rename_i heq
        subst heq
        refine .of_makes (h.app (ty := ty) (h.ev _) (h.ev _) hk2) hd ?_ (by simp)
        simp only [execOp, resolve, invoke, builtin, e]
        rfl
      · refine .of_makes (h.appZ (ty := ty) (h.ev _) (h.ev _) hk2) hd ?_ (by simp)
        simp only [execOp, resolve, invoke, builtin, e]
        rfl
    · rename_i x t
      obtain ⟨⟨hel, hx⟩, hK⟩ := need_iff.1 hk
      obtain ⟨e0, he⟩ := Option.isSome_iff_exists.1 hel
      have hv := h.ev (Γ := Γ) x
      split at hx
      · rename_i hn
        rw [hn] at hv
        simp only [repLv] at hv
        refine .of_gives (s := Builtin.cap_ #[t] ty #[a.eval x]) h ⟨_, _, hK, rfl, ?_, mk_int⟩ hd ?_ (by simp)
        · rw [hv]; simp [Builtin.cap_, run_underlying (elq_some he)]; rfl
        · have e : [x].toArray.map a.eval = #[a.eval x] := by simp
          simp only [execOp, resolve, invoke, builtin, e]
          rfl
      · exact hx.elim
    · rename_i s x ts tx
      obtain ⟨rfl, hk3⟩ := need_iff.1 hk
      refine .of_makes (h.cpy (ty := ty) (h.ev _) (h.ev _) hk3) hd ?_ (by simp)
      have e : [s, x].toArray.map a.eval = #[a.eval s, a.eval x] := by simp
      simp only [execOp, resolve, invoke, builtin, e]
      rfl
    · exact hk.elim
  · exact hk.elim
end Go.Vm

namespace Go.Vm
variable {Γ : Nat → Option (List V)} {σ σ' : VS} {P : Program} {K : Eff → Prop} {Sp : FuncId → List V → R → Prop}

def Same (σ σ' : VS) (ks : List Key) : Prop := ∀ k ∈ ks, σ'.mem k = σ.mem k
theorem Same.left {a b : List Key} (h : Same σ σ' (a ++ b)) : Same σ σ' a := fun k hk => h k (List.mem_append_left _ hk)
theorem Same.right {a b : List Key} (h : Same σ σ' (a ++ b)) : Same σ σ' b := fun k hk => h k (List.mem_append_right _ hk)
theorem Same.one {k : Key} {b : List Key} (h : Same σ σ' (k :: b)) : σ'.mem k = σ.mem k := h k (by simp)
theorem Same.tl {k : Key} {b : List Key} (h : Same σ σ' (k :: b)) : Same σ σ' b := fun k hk => h k (List.mem_cons_of_mem _ hk)

theorem curA_loc {t g : Nat} (h : σ'.mem (.a t) = σ.mem (.a t)) : curA σ' t g = curA σ t g := by unfold curA; rw [h]
theorem boxN_loc {t : Nat} (h : σ'.mem (.b t) = σ.mem (.b t)) : boxN σ' t = boxN σ t := by unfold boxN; rw [h]
theorem cellOf_loc {t j : Nat} (h : σ'.mem (.c t j) = σ.mem (.c t j)) : cellOf σ' t j = cellOf σ t j := by unfold cellOf; rw [h]
theorem fresh_loc {t : Nat} (h : σ'.mem (.b t) = σ.mem (.b t)) (h' : σ'.mem (.a t) = σ.mem (.a t)) : fresh σ' t = fresh σ t := by unfold fresh; rw [h, h']
theorem cellsOf_loc {t : Nat} : ∀ {n j : Nat}, Same σ σ' (keysC t j n) → cellsOf σ' t j n = cellsOf σ t j n
  | 0, _, _ => rfl
  | n + 1, j, h => by
    have h1 : cellOf σ' t j = cellOf σ t j := by unfold cellOf; rw [h.one]
    unfold cellsOf
    rw [h1, cellsOf_loc h.tl]
theorem pubA_loc {l : L} {q : Pub} (h : pubA σ l = some q) (hs : Same σ σ' q.rd) : pubA σ' l = some q := by
  cases l with
  | arr t g =>
    simp only [pubA] at h ⊢
    cases hc : curA σ t g with
    | none => simp [hc] at h
    | some x =>
      simp only [hc, Option.map_some, Option.some.injEq] at h
      subst h
      rw [curA_loc hs.one, hc]; rfl
  | _ => exact h
theorem pubWith_loc {f f' : L → Option Pub} (hf : ∀ l q, f l = some q → Same σ σ' q.rd → f' l = some q) : ∀ {ls : List L} {q : Pubs}, pubWith f ls = some q → Same σ σ' q.rd → pubWith f' ls = some q
  | [], q, h, _ => by simpa [pubWith] using h
  | l :: r, q, h, hs => by
    simp only [pubWith] at h ⊢
    cases h1 : f l with
    | none => simp [h1] at h
    | some p =>
      simp only [h1] at h
      cases h2 : pubWith f r with
      | none => simp [h2] at h
      | some ps =>
        simp only [h2, Option.map_some, Option.some.injEq] at h
        subst h
        rw [hf l p h1 hs.left, pubWith_loc hf h2 hs.right]; rfl
theorem pubB_loc {t : Nat} {q : Pub} (h : pubB σ t = some q) (hs : Same σ σ' q.rd) : pubB σ' t = some q := by
  unfold pubB at h ⊢
  obtain ⟨n, hn, h⟩ := Option.bind_eq_some_iff.1 h
  obtain ⟨ls, hls, h⟩ := Option.bind_eq_some_iff.1 h
  split at h
  · rename_i hc
    obtain ⟨q', hq', rfl⟩ := Option.map_eq_some_iff.1 h
    rw [boxN_loc hs.one, hn, Option.bind_some, cellsOf_loc hs.tl.left, hls, Option.bind_some, if_pos hc, pubWith_loc (fun _ _ => pubA_loc) hq' hs.tl.right]; rfl
  · cases h
theorem pub0uloc {l : L} {q : Pub} (h : pub0 σ l = some q) (hs : Same σ σ' q.rd) : pub0 σ' l = some q := by
  cases l with
  | bsl t => exact pubB_loc h hs
  | arr t g => exact pubA_loc (l := .arr t g) h hs
  | _ => exact h
theorem pub1uloc {l : L} {q : Pub} (h : pub1 σ l = some q) (hs : Same σ σ' q.rd) : pub1 σ' l = some q := by
  cases l with
  | agg ls =>
    simp only [pub1] at h ⊢
    split at h
    · rename_i hc
      cases h2 : pubWith (pub0 σ) ls with
      | none => simp [h2] at h
      | some ps =>
        simp only [h2, Option.map_some, Option.some.injEq] at h
        subst h
        rw [if_pos hc, pubWith_loc (fun _ _ => pub0uloc) h2 hs]; rfl
    · cases h
  | _ => simp only [pub1] at h ⊢; exact pub0uloc h hs
theorem pubO_loc {l : L} {q : Pub} (h : pubO σ l = some q) (hs : Same σ σ' q.rd) : pubO σ' l = some q := by
  unfold pubO at h ⊢
  split at h
  · rename_i t
    cases hb : boxN σ t with
    | none => simp [hb] at h
    | some n =>
      simp only [hb, Option.bind_some] at h
      cases hc : cellsOf σ t 0 n with
      | none => simp [hc] at h
      | some ls =>
        simp only [hc, Option.bind_some] at h
        split at h
        · rename_i ha
          cases h2 : pubWith (pub0 σ) ls with
          | none => simp [h2] at h
          | some ps =>
            simp only [h2, Option.map_some, Option.some.injEq] at h
            subst h
            have hs : Same σ σ' (.b t :: (keysC t 0 n ++ ps.rd)) := by simpa using hs
            rw [boxN_loc hs.one, hb, Option.bind_some, cellsOf_loc hs.tl.left, hc, Option.bind_some, if_pos ha, pubWith_loc (fun _ _ => pub0uloc) h2 hs.tl.right]; rfl
        · cases h
  · exact pub1uloc h hs
theorem conts_loc {l : L} {x : List V × List Key} (h : conts σ l = some x) (hs : Same σ σ' x.2) : conts σ' l = some x := by
  cases l with
  | arr t g =>
    simp only [conts] at h ⊢
    cases hc : curA σ t g with
    | none => simp [hc] at h
    | some x =>
      simp only [hc, Option.map_some, Option.some.injEq] at h
      subst h
      rw [curA_loc hs.one, hc]; rfl
  | win t g i j =>
    simp only [conts] at h ⊢
    cases hc : curA σ t g with
    | none => simp [hc] at h
    | some x =>
      simp only [hc, Option.map_some, Option.some.injEq] at h
      subst h
      rw [curA_loc hs.one, hc]; rfl
  | p v => cases v <;> exact h
  | _ => exact h
theorem lens_loc {l : L} {x : Nat × List Key} (h : lens σ l = some x) (hs : Same σ σ' x.2) : lens σ' l = some x := by
  have other : (∀ s, l ≠ .p (.s s)) → (∀ t, l ≠ .bsl t) → lens σ' l = some x := fun h1 h2 => by
    have e : ∀ σ : VS, lens σ l = (conts σ l).map fun (xs, ks) => (xs.length, ks) := fun σ => by
      unfold lens; split
      · exact (h1 _ rfl).elim
      · exact (h2 _ rfl).elim
      · rfl
    rw [e] at h ⊢
    obtain ⟨y, hy, rfl⟩ := Option.map_eq_some_iff.1 h
    rw [conts_loc hy hs]; rfl
  cases l with
  | bsl t =>
    simp only [lens] at h ⊢
    obtain ⟨n, hn, rfl⟩ := Option.map_eq_some_iff.1 h
    rw [boxN_loc hs.one, hn]; rfl
  | p v => cases v with
    | s s => exact h
    | _ => exact other (fun s e => by cases e) (fun t e => by cases e)
  | _ => exact other (fun s e => by cases e) (fun t e => by cases e)
theorem isNil_loc {l : L} {r : Bool} (h : isNil σ l = some r) (hs : Same σ σ' (nilRd l)) : isNil σ' l = some r := by
  cases l with
  | arr t g =>
    simp only [isNil] at h ⊢
    rw [curA_loc hs.one]; exact h
  | p v =>
    cases v with
    | sl xs => cases xs <;> exact h
    | _ => exact h
  | _ => exact h

def Loc (F : VS → (Eff → Prop) → Prop) (σ : VS) : Prop := ∀ K, F σ K → ∃ e, K e ∧ ∀ σ', Same σ σ' e.rd → ∀ K' : Eff → Prop, K' e → F σ' K'

theorem newBox_loc {d : Nat} {ls : List L} : Loc (fun σ K => newBox σ d ls K) σ := fun K h => by
  obtain ⟨⟨h1, h2, h3⟩, hK⟩ := need_iff.1 h
  exact ⟨_, hK, fun σ' hs K' k => need_iff.2 ⟨⟨by rw [fresh_loc hs.one hs.tl.one]; exact h1, h2, h3⟩, k⟩⟩
theorem vload_loc {t : TypeId} {l : L} : Loc (fun σ K => vload P σ t l K) σ := fun K h => by
  simp only [vload] at h
  obtain ⟨n, hn, h⟩ := wantO_iff.1 h
  obtain ⟨ag, hag, h⟩ := wantO_iff.1 h
  split at h
  · obtain ⟨m, hm, h⟩ := wantO_iff.1 h
    obtain ⟨hlt, h⟩ := need_iff.1 h
    obtain ⟨ls, hls, h⟩ := wantO_iff.1 h
    obtain ⟨l', hl', hK⟩ := wantO_iff.1 h
    refine ⟨_, hK, fun σ' hs K' k => ?_⟩
    simp only [vload, hn, hag, wantO_some]
    rw [boxN_loc hs.one, hm, wantO_some, cellsOf_loc hs.tl, hls, wantO_some, hl', wantO_some]
    exact need_iff.2 ⟨hlt, k⟩
  · obtain ⟨⟨tt, xs⟩, hc, h⟩ := wantO_iff.1 h
    obtain ⟨x, hx, h⟩ := wantO_iff.1 h
    obtain ⟨cs, hcs, h⟩ := wantO_iff.1 h
    obtain ⟨v, hv, hK⟩ := wantO_iff.1 h
    refine ⟨_, hK, fun σ' hs K' k => ?_⟩
    simp only [vload, hn, hag, wantO_some]
    rw [curA_loc hs.one, hc, wantO_some, hx, wantO_some, hcs, wantO_some, hv, wantO_some]
    exact k
  · obtain ⟨cs, hcs, h⟩ := wantO_iff.1 h
    obtain ⟨v, hv, hK⟩ := wantO_iff.1 h
    refine ⟨_, hK, fun σ' hs K' k => ?_⟩
    simp only [vload, hn, hag, wantO_some]
    rw [hcs, wantO_some, hv, wantO_some]
    exact k
  · obtain ⟨m, hm, h⟩ := wantO_iff.1 h
    obtain ⟨h1, h⟩ := need_iff.1 h
    obtain ⟨l', hl', hK⟩ := wantO_iff.1 h
    refine ⟨_, hK, fun σ' hs K' k => ?_⟩
    simp only [vload, hn, hag, wantO_some]
    rw [boxN_loc hs.one, hm, wantO_some]
    refine need_iff.2 ⟨h1, ?_⟩
    rw [cellOf_loc hs.tl.one, hl', wantO_some]; exact k
  · exact h.elim
theorem vput_loc {s j : Nat} {x : L} : Loc (fun σ K => vput σ s j x K) σ := fun K h => by
  simp only [vput] at h
  split at h
  · rename_i t g
    by_cases ht : t = rs s j
    · have hK := h.1 ht
      exact ⟨_, hK, fun σ' hs K' k => ⟨fun _ => k, fun hn => (hn ht).elim⟩⟩
    · obtain ⟨⟨⟨e, es⟩, xs⟩, hc, h⟩ := wantO_iff.1 (h.2 ht)
      obtain ⟨⟨h1, h2⟩, hK⟩ := need_iff.1 h
      refine ⟨_, hK, fun σ' hs K' k => ⟨fun hy => (ht hy).elim, fun _ => ?_⟩⟩
      rw [curA_loc hs.tl.tl.one, hc, wantO_some]
      refine need_iff.2 ⟨⟨by rw [hs.tl.tl.tl.one]; exact h1, by rw [hs.tl.tl.tl.tl.one]; exact h2⟩, ?_⟩
      rw [hs.tl.tl.tl.tl.tl.one]; exact k
  · exact ⟨_, h, fun σ' hs K' k => k⟩
  · exact ⟨_, h, fun σ' hs K' k => k⟩
  · exact ⟨_, h, fun σ' hs K' k => k⟩
  · exact h.elim
theorem vput_rd {s j : Nat} {x : L} {K : Eff → Prop} (h : vput σ s j x K) : vput σ s j x fun e => K e ∧ ∃ r, e.rd = .b s :: .f s :: r := by
  simp only [vput] at h ⊢
  split at h
  · refine ⟨fun e => ⟨h.1 e, [], rfl⟩, fun e => ?_⟩
    obtain ⟨q, hq, h⟩ := wantO_iff.1 (h.2 e)
    refine wantO_iff.2 ⟨q, hq, ?_⟩
    obtain ⟨h1, h2⟩ := need_iff.1 h
    exact need_iff.2 ⟨h1, h2, _, rfl⟩
  · exact ⟨h, [], rfl⟩
  · exact ⟨h, [], rfl⟩
  · exact ⟨h, [], rfl⟩
  · exact h.elim
theorem vstore_loc {t : TypeId} {l x : L} : Loc (fun σ K => vstore P σ t l x K) σ := fun K h => by
  simp only [vstore] at h
  obtain ⟨n, hn, h⟩ := wantO_iff.1 h
  split at h
  · obtain ⟨m, hm, h⟩ := wantO_iff.1 h
    obtain ⟨⟨h1, h2, h3, h4⟩, hK⟩ := need_iff.1 h
    refine ⟨_, hK, fun σ' hs K' k => ?_⟩
    simp only [vstore, hn, wantO_some]
    rw [boxN_loc hs.one, hm, wantO_some, hs.tl.one]
    exact need_iff.2 ⟨⟨h1, h2, h3, h4⟩, k⟩
  · obtain ⟨⟨⟨e, es⟩, xs⟩, hc, h⟩ := wantO_iff.1 h
    obtain ⟨y, hy, h⟩ := wantO_iff.1 h
    obtain ⟨q, hq, h⟩ := wantO_iff.1 h
    obtain ⟨⟨h1, h2, h3, h4⟩, h⟩ := need_iff.1 h
    obtain ⟨v, hv, hK⟩ := wantO_iff.1 h
    refine ⟨_, hK, fun σ' hs K' k => ?_⟩
    simp only [vstore, hn, wantO_some]
    rw [curA_loc hs.one, hc, wantO_some, hy, wantO_some, pub1uloc hq hs.tl.tl, wantO_some, hs.tl.one]
    refine need_iff.2 ⟨⟨h1, h2, h3, h4⟩, ?_⟩
    rw [hv, wantO_some]; exact k
  · obtain ⟨m, hm, h⟩ := wantO_iff.1 h
    obtain ⟨⟨h1, h2, h3⟩, h⟩ := need_iff.1 h
    obtain ⟨e, ⟨hK, r, hr⟩, hl⟩ := vput_loc _ (vput_rd h)
    refine ⟨e, hK, fun σ' hs K' k => ?_⟩
    have hs' := hs
    rw [hr] at hs'
    simp only [vstore, hn, wantO_some]
    rw [boxN_loc hs'.one, hm, wantO_some, hs'.tl.one]
    exact need_iff.2 ⟨⟨h1, h2, h3⟩, hl σ' hs K' k⟩
  · exact h.elim
theorem vappend_loc {d : Nat} {ts : TypeId} {s x : L} : Loc (fun σ K => vappend P σ d ts s x K) σ := fun K h => by
  simp only [vappend] at h
  obtain ⟨e, he, h⟩ := wantO_iff.1 h
  obtain ⟨es, hes, h⟩ := wantO_iff.1 h
  obtain ⟨by', hby, h⟩ := wantO_iff.1 h
  obtain ⟨z, hz, h⟩ := wantO_iff.1 h
  obtain ⟨⟨ys, ks⟩, hc, h⟩ := wantO_iff.1 h
  obtain ⟨hn, h⟩ := need_iff.1 h
  split at h
  · obtain ⟨⟨⟨e', es'⟩, xs⟩, ha, h⟩ := wantO_iff.1 h
    obtain ⟨h1, hK⟩ := need_iff.1 h
    refine ⟨_, hK, fun σ' hs K' k => ?_⟩
    simp only [vappend, he, hes, hby, hz, wantO_some]
    rw [conts_loc hc hs.tl, wantO_some]
    refine need_iff.2 ⟨hn, ?_⟩
    simp only
    rw [curA_loc hs.one, ha, wantO_some]
    exact need_iff.2 ⟨h1, k⟩
  · obtain ⟨⟨h0, h1⟩, hK⟩ := need_iff.1 h
    refine ⟨_, hK, fun σ' hs K' k => ?_⟩
    simp only [vappend, he, hes, hby, hz, wantO_some]
    rw [conts_loc hc hs.tl.tl, wantO_some]
    exact need_iff.2 ⟨hn, need_iff.2 ⟨⟨by rw [fresh_loc hs.one hs.tl.one]; exact h0, h1⟩, k⟩⟩
  · by_cases hy : ys = []
    · have hK := h.1 hy
      refine ⟨_, hK, fun σ' hs K' k => ?_⟩
      simp only [vappend, he, hes, hby, hz, wantO_some]
      rw [conts_loc hc hs, wantO_some]
      exact need_iff.2 ⟨hn, fun _ => k, fun hny => (hny hy).elim⟩
    · obtain ⟨⟨h0, h1⟩, hK⟩ := need_iff.1 (h.2 hy)
      refine ⟨_, hK, fun σ' hs K' k => ?_⟩
      simp only [vappend, he, hes, hby, hz, wantO_some]
      rw [conts_loc hc hs.tl.tl, wantO_some]
      exact need_iff.2 ⟨hn, fun hy' => (hy hy').elim, fun _ => need_iff.2 ⟨⟨by rw [fresh_loc hs.one hs.tl.one]; exact h0, h1⟩, k⟩⟩
  · exact h.elim
theorem vindexAddr_loc {t : TypeId} {x i : L} : Loc (fun σ K => vindexAddr P σ t x i K) σ := fun K h => by
  simp only [vindexAddr] at h
  split at h
  · obtain ⟨e, he, h⟩ := wantO_iff.1 h
    obtain ⟨es, hes, h⟩ := wantO_iff.1 h
    obtain ⟨⟨⟨e', es'⟩, xs⟩, ha, h⟩ := wantO_iff.1 h
    obtain ⟨h1, hK⟩ := need_iff.1 h
    refine ⟨_, hK, fun σ' hs K' k => ?_⟩
    simp only [vindexAddr, he, hes, wantO_some]
    rw [curA_loc hs.one, ha, wantO_some]
    exact need_iff.2 ⟨h1, k⟩
  · obtain ⟨e, he, h⟩ := wantO_iff.1 h
    obtain ⟨es, hes, h⟩ := wantO_iff.1 h
    obtain ⟨x, h0, hx, h⟩ := h
    obtain ⟨h1, hK⟩ := need_iff.1 h
    refine ⟨_, hK, fun σ' hs K' k => ?_⟩
    simp only [vindexAddr, he, hes, wantO_some]
    exact ⟨x, h0, hx, need_iff.2 ⟨h1, k⟩⟩
  · obtain ⟨⟨len, e⟩, he, h⟩ := wantO_iff.1 h
    obtain ⟨es, hes, h⟩ := wantO_iff.1 h
    obtain ⟨m, hm, h⟩ := wantO_iff.1 h
    obtain ⟨h1, hK⟩ := need_iff.1 h
    refine ⟨_, hK, fun σ' hs K' k => ?_⟩
    simp only [vindexAddr, he, hes, wantO_some]
    rw [boxN_loc hs.one, hm, wantO_some]
    exact need_iff.2 ⟨h1, k⟩
  · obtain ⟨⟨len, e⟩, he, h⟩ := wantO_iff.1 h
    obtain ⟨es, hes, h⟩ := wantO_iff.1 h
    obtain ⟨h1, hK⟩ := need_iff.1 h
    refine ⟨_, hK, fun σ' hs K' k => ?_⟩
    simp only [vindexAddr, he, hes, wantO_some]
    exact need_iff.2 ⟨h1, k⟩
  · obtain ⟨e, he, h⟩ := wantO_iff.1 h
    obtain ⟨es, hes, h⟩ := wantO_iff.1 h
    obtain ⟨m, hm, h⟩ := wantO_iff.1 h
    obtain ⟨h1, hK⟩ := need_iff.1 h
    refine ⟨_, hK, fun σ' hs K' k => ?_⟩
    simp only [vindexAddr, he, hes, wantO_some]
    rw [boxN_loc hs.one, hm, wantO_some]
    exact need_iff.2 ⟨h1, k⟩
  · exact h.elim
theorem vslice_str {t : TypeId} {x : L} {lo hi mx : Option L} (hx : ∀ s, x ≠ .p (.s s)) : vslice P σ t x lo hi mx K = wantO (elq P t) fun e => wantO (szq P e) fun es => wantO (pub0 σ x) fun q => match q.v with
    | .sl xs =>
      match mx with
      | none => wantO (bnd 0 lo) fun a => wantO (bnd xs.length hi) fun b => need (0 ≤ a ∧ a ≤ b ∧ b ≤ xs.length ∧ ∀ y ∈ xs, y.cells.length = es) (K ⟨.p (.sl ((xs.take b.toNat).drop a.toNat)), q.rd, frzs q.fz⟩)
      | some m => wantO (bnd 0 lo) fun a => wantO (bnd 0 hi) fun b => wantO (bnd 0 (some m)) fun c => need (a = 0 ∧ b = 0 ∧ c = 0 ∧ hi.isSome = true) (K ⟨.e0, q.rd, []⟩)
    | _ => False := by
  cases x with
  | p v =>
    cases v with
    | s s => exact (hx s rfl).elim
    | _ => rfl
  | _ => rfl
theorem vslice_loc {t : TypeId} {x : L} {lo hi mx : Option L} : Loc (fun σ K => vslice P σ t x lo hi mx K) σ := fun K h => by
  by_cases hx : ∃ s, x = .p (.s s)
  · obtain ⟨s, rfl⟩ := hx
    simp only [vslice] at h
    obtain ⟨h0, h⟩ := need_iff.1 h
    obtain ⟨a, ha, h⟩ := wantO_iff.1 h
    obtain ⟨b, hb, h⟩ := wantO_iff.1 h
    obtain ⟨h1, hK⟩ := need_iff.1 h
    refine ⟨_, hK, fun σ' hs K' k => ?_⟩
    simp only [vslice, ha, hb, wantO_some]
    exact need_iff.2 ⟨h0, need_iff.2 ⟨h1, k⟩⟩
  · have hx : ∀ s, x ≠ .p (.s s) := fun s e => hx ⟨s, e⟩
    simp only [vslice_str hx] at h ⊢
    obtain ⟨e, he, h⟩ := wantO_iff.1 h
    obtain ⟨es, hes, h⟩ := wantO_iff.1 h
    obtain ⟨q, hq, h⟩ := wantO_iff.1 h
    split at h
    · rename_i xs hv
      split at h
      · obtain ⟨a, ha, h⟩ := wantO_iff.1 h
        obtain ⟨b, hb, h⟩ := wantO_iff.1 h
        obtain ⟨h1, hK⟩ := need_iff.1 h
        refine ⟨_, hK, fun σ' hs K' k => ?_⟩
        simp only [he, hes, wantO_some]
        rw [pub0uloc hq hs, wantO_some, hv]
        simp only [ha, hb, wantO_some]
        exact need_iff.2 ⟨h1, k⟩
      · obtain ⟨a, ha, h⟩ := wantO_iff.1 h
        obtain ⟨b, hb, h⟩ := wantO_iff.1 h
        obtain ⟨c, hc, h⟩ := wantO_iff.1 h
        obtain ⟨h1, hK⟩ := need_iff.1 h
        refine ⟨_, hK, fun σ' hs K' k => ?_⟩
        simp only [he, hes, wantO_some]
        rw [pub0uloc hq hs, wantO_some, hv]
        simp only [ha, hb, hc, wantO_some]
        exact need_iff.2 ⟨h1, k⟩
    · exact h.elim
theorem vsliceW_loc {t : TypeId} {x : L} {lo hi mx : Option L} : Loc (fun σ K => vsliceW P σ t x lo hi mx K) σ := fun K h => by
  cases x with
  | arr s g =>
    simp only [vsliceW] at h ⊢
    obtain ⟨e, he, h⟩ := wantO_iff.1 h
    obtain ⟨es, hes, h⟩ := wantO_iff.1 h
    obtain ⟨c, hc, h⟩ := wantO_iff.1 h
    obtain ⟨a, ha, h⟩ := wantO_iff.1 h
    obtain ⟨b, hb, h⟩ := wantO_iff.1 h
    obtain ⟨h1, hK⟩ := need_iff.1 h
    by_cases hf : isFil hi = true
    · rw [if_pos hf] at hK
      obtain ⟨h2, hK⟩ := need_iff.1 hK
      refine ⟨_, hK, fun σ' hs K' k => ?_⟩
      rw [he, wantO_some, hes, wantO_some, curA_loc (hs (.a s) (by simp)), hc, wantO_some, ha, wantO_some, hb, wantO_some]
      refine need_iff.2 ⟨h1, ?_⟩
      rw [if_pos hf]
      exact need_iff.2 ⟨by rw [hs (.f s) (by simp)]; exact h2, k⟩
    · rw [if_neg hf] at hK
      refine ⟨_, hK, fun σ' hs K' k => ?_⟩
      rw [he, wantO_some, hes, wantO_some, curA_loc hs.one, hc, wantO_some, ha, wantO_some, hb, wantO_some]
      refine need_iff.2 ⟨h1, ?_⟩
      rw [if_neg hf]; exact k
  | nilS =>
    simp only [vsliceW] at h ⊢
    obtain ⟨e, he, h⟩ := wantO_iff.1 h
    obtain ⟨es, hes, h⟩ := wantO_iff.1 h
    obtain ⟨a, ha, h⟩ := wantO_iff.1 h
    obtain ⟨b, hb, h⟩ := wantO_iff.1 h
    obtain ⟨h1, hK⟩ := need_iff.1 h
    refine ⟨_, hK, fun σ' hs K' k => ?_⟩
    rw [he, wantO_some, hes, wantO_some, ha, wantO_some, hb, wantO_some]
    exact need_iff.2 ⟨h1, k⟩
  | _ => exact h.elim
theorem vsl_loc {m : Bool} {t : TypeId} {x : L} {lo hi mx : Option L} : Loc (fun σ K => vsl m P σ t x lo hi mx K) σ := by
  cases m with
  | true => exact vsliceW_loc
  | false => exact vslice_loc
theorem winQ_loc {l : L} {q : (Nat × Nat) × ((TypeId × Nat) × List V) × Nat × Nat} (h : winQ σ l = some q) (hs : σ'.mem (.a q.1.1) = σ.mem (.a q.1.1)) : winQ σ' l = some q := by
  cases l with
  | arr t g =>
    simp only [winQ] at h ⊢
    obtain ⟨c, hc, rfl⟩ := Option.map_eq_some_iff.1 h
    rw [curA_loc hs, hc]; rfl
  | win t g i j =>
    simp only [winQ] at h ⊢
    obtain ⟨c, hc, rfl⟩ := Option.map_eq_some_iff.1 h
    rw [curA_loc hs, hc]; rfl
  | _ => simp [winQ] at h
theorem vcopy_loc {ts : TypeId} {d x : L} : Loc (fun σ K => vcopy P σ ts d x K) σ := fun K h => by
  simp only [vcopy] at h ⊢
  obtain ⟨e, he, h⟩ := wantO_iff.1 h
  obtain ⟨es, hes, h⟩ := wantO_iff.1 h
  obtain ⟨q, hq, h⟩ := wantO_iff.1 h
  obtain ⟨c, hc, h⟩ := wantO_iff.1 h
  obtain ⟨⟨h1, h2, h3, h4⟩, hK⟩ := need_iff.1 h
  refine ⟨_, hK, fun σ' hs K' k => ?_⟩
  rw [he, wantO_some, hes, wantO_some, winQ_loc hq hs.one, wantO_some, conts_loc hc hs.tl.tl, wantO_some]
  exact need_iff.2 ⟨⟨h1, h2, by rw [hs.tl.one]; exact h3, h4⟩, k⟩
theorem freshR_loc {d : Nat} : ∀ {n j : Nat}, Same σ σ' (tabK d j n) → freshR σ' d j n = freshR σ d j n
  | 0, _, _ => rfl
  | n + 1, j, h => by
    simp only [freshR]
    rw [fresh_loc h.one h.tl.one, freshR_loc h.tl.tl]
theorem vmakeTab_loc {d : Nat} {e : TypeId} {n c : L} : Loc (fun σ K => vmakeTab P σ d e n c K) σ := fun K h => by
  simp only [vmakeTab] at h
  obtain ⟨e2, he2, h⟩ := wantO_iff.1 h
  obtain ⟨es2, hes2, h⟩ := wantO_iff.1 h
  obtain ⟨es, hes, h⟩ := wantO_iff.1 h
  obtain ⟨by', hby, h⟩ := wantO_iff.1 h
  split at h
  · obtain ⟨⟨h1, h2, h3, h4, h5, h6, h7, h8, h9, h10⟩, hK⟩ := need_iff.1 h
    refine ⟨_, hK, fun σ' hs K' k => ?_⟩
    simp only [vmakeTab, he2, hes2, hes, hby, wantO_some]
    exact need_iff.2 ⟨⟨h1, h2, h3, h4, h5, by rw [fresh_loc hs.one hs.tl.one]; exact h6, h7, h8, h9, by rw [freshR_loc hs.tl.tl]; exact h10⟩, k⟩
  · exact h.elim
theorem vmakeSlice_loc {d : Nat} {t : TypeId} {n c : L} : Loc (fun σ K => vmakeSlice P σ d t n c K) σ := fun K h => by
  simp only [vmakeSlice] at h
  obtain ⟨e, he, h⟩ := wantO_iff.1 h
  obtain ⟨es, hes, h⟩ := wantO_iff.1 h
  obtain ⟨by', hby, h⟩ := wantO_iff.1 h
  obtain ⟨z, hz, h⟩ := wantO_iff.1 h
  by_cases hrow : isRow z = true
  · rw [if_pos hrow] at h
    obtain ⟨ef, hK, hl⟩ := vmakeTab_loc _ h
    refine ⟨ef, hK, fun σ' hs K' k => ?_⟩
    simp only [vmakeSlice, he, hes, hby, hz, wantO_some, if_pos hrow]
    exact hl σ' hs K' k
  rw [if_neg hrow] at h
  obtain ⟨ag, hag, h⟩ := wantO_iff.1 h
  obtain ⟨q, hq, h⟩ := wantO_iff.1 h
  obtain ⟨v, hv, h⟩ := wantO_iff.1 h
  have hz0 : ∀ (ls : List L) (σ1 : VS), (∀ l ∈ ls, (∀ t g, l ≠ .arr t g) ∧ ∀ t, l ≠ .bsl t) → pubWith (pub0 σ1) ls = pubWith (pub0 σ) ls := fun ls σ1 => by
    induction ls with
    | nil => intro _; rfl
    | cons l r ih =>
      intro hl
      have h1 : pub0 σ1 l = pub0 σ l := by
        cases l with
        | arr t g => exact ((hl _ (by simp)).1 t g rfl).elim
        | bsl t => exact ((hl _ (by simp)).2 t rfl).elim
        | _ => rfl
      simp only [pubWith, h1, ih fun l hm => hl l (List.mem_cons_of_mem _ hm)]
  have hzz : ∀ l ∈ z, (∀ t g, l ≠ L.arr t g) ∧ ∀ t, l ≠ L.bsl t := fun l hl => by
    unfold zeq at hz
    cases hi : ((P.info? e).bind (·.zero)) with
    | none => simp [hi] at hz
    | some v0 =>
      simp only [hi, Option.bind_some] at hz
      have : ∀ (vs : List Value) (ls : List L), vs.mapM scal = some ls → ∀ l ∈ ls, (∀ t g, l ≠ L.arr t g) ∧ ∀ t, l ≠ L.bsl t := by
        intro vs
        induction vs with
        | nil => intro ls h; simp at h; subst h; simp
        | cons v vs ih =>
          intro ls h
          simp only [List.mapM_cons, Option.bind_eq_bind, Option.bind_eq_some_iff, Option.pure_def, Option.some.injEq] at h
          obtain ⟨l1, h1, ls1, h2, rfl⟩ := h
          intro l hl
          rcases List.mem_cons.1 hl with rfl | hl
          · refine ⟨fun t g e => ?_, fun t e => ?_⟩ <;> (subst e; unfold scal at h1; split at h1 <;> simp at h1)
          · exact ih _ h2 l hl
      exact this _ _ hz _ hl
  split at h
  · obtain ⟨⟨h1, h2, h3, h4, h5, h6, h7⟩, hK⟩ := need_iff.1 h
    refine ⟨_, hK, fun σ' hs K' k => ?_⟩
    simp only [vmakeSlice, he, hes, hby, hz, if_neg hrow, hag, wantO_some]
    rw [hz0 z σ' hzz, hq, wantO_some, hv, wantO_some]
    exact need_iff.2 ⟨⟨h1, h2, h3, h4, h5, by rw [fresh_loc hs.one hs.tl.one]; exact h6, h7⟩, k⟩
  · exact h.elim
theorem vbuildSlice_loc {d : Nat} {t : TypeId} {n : Nat} {is : List Nat} {ls : List L} : Loc (fun σ K => vbuildSlice P σ d t n is ls K) σ := fun K h => by
  simp only [vbuildSlice] at h
  obtain ⟨e, he, h⟩ := wantO_iff.1 h
  obtain ⟨es, hes, h⟩ := wantO_iff.1 h
  obtain ⟨z, hz, h⟩ := wantO_iff.1 h
  obtain ⟨q, hq, h⟩ := wantO_iff.1 h
  obtain ⟨⟨h1, h2, h3, h4⟩, hK⟩ := need_iff.1 h
  refine ⟨_, hK, fun σ' hs K' k => ?_⟩
  simp only [vbuildSlice, he, hes, hz, wantO_some]
  rw [pubWith_loc (fun _ _ => pub1uloc) hq hs.tl.tl, wantO_some]
  exact need_iff.2 ⟨⟨h1, h2, by rw [fresh_loc hs.one hs.tl.one]; exact h3, h4⟩, k⟩
theorem vcallP_loc {d : Option Nat} {f : L} {args : List L} : Loc (fun σ K => vcallP Sp σ d f args K) σ := fun K h => by
  simp only [vcallP] at h
  split at h
  · obtain ⟨q, hq, h⟩ := wantO_iff.1 h
    obtain ⟨r, hr, h⟩ := h
    split at h
    · rename_i d
      obtain ⟨h1, hK⟩ := need_iff.1 h
      refine ⟨_, hK, fun σ' hs K' k => ?_⟩
      simp only [vcallP]
      rw [pubWith_loc (fun _ _ => pub1uloc) hq hs.right, wantO_some]
      refine ⟨r, hr, need_iff.2 ⟨?_, k⟩⟩
      rw [List.all_eq_true] at h1 ⊢
      intro x hx
      have h2 := h1 x hx
      split at h2
      · rename_i t ht
        have hm : ∀ k, k = Key.b t ∨ k = Key.a t → σ'.mem k = σ.mem k := fun k hk => hs.left k (List.mem_flatMap.2 ⟨x, hx, by rw [ht]; simpa using hk⟩)
        rw [fresh_loc (hm _ (.inl rfl)) (hm _ (.inr rfl))]; exact h2
      · rfl
    · obtain ⟨h1, hK⟩ := need_iff.1 h
      refine ⟨_, hK, fun σ' hs K' k => ?_⟩
      simp only [vcallP]
      rw [pubWith_loc (fun _ _ => pub1uloc) hq hs, wantO_some]
      exact ⟨r, hr, need_iff.2 ⟨h1, k⟩⟩
  · exact h.elim
theorem sites_loc {l : List (Key × M)} {fz : List Nat} {ks : List Key} (hs : Same σ σ' ((l.flatMap fun w => match w.1 with | .a t => [Key.b t, .a t] | _ => []) ++ ks)) (h1 : (l.all fun w => match w.1 with | .a t => fresh σ t && !(fz.contains t) | _ => true) = true) : (l.all fun w => match w.1 with | .a t => fresh σ' t && !(fz.contains t) | _ => true) = true := by
  rw [List.all_eq_true] at h1 ⊢
  intro x hx
  have h2 := h1 x hx
  split at h2
  · rename_i t ht
    have hm : ∀ k, k = Key.b t ∨ k = Key.a t → σ'.mem k = σ.mem k := fun k hk => hs.left k (List.mem_flatMap.2 ⟨x, hx, by rw [ht]; simpa using hk⟩)
    rw [fresh_loc (hm _ (.inl rfl)) (hm _ (.inr rfl))]; exact h2
  · rfl
theorem vcallO_loc {d : Option Nat} {f : L} {args : List L} : Loc (fun σ K => vcallO Sp σ d f args K) σ := fun K h => by
  simp only [vcallO] at h
  split at h
  · obtain ⟨pre, t, g0, post, ha, h⟩ := h
    obtain ⟨⟨⟨e, es⟩, xs⟩, hc, h⟩ := wantO_iff.1 h
    obtain ⟨q1, hq1, h⟩ := wantO_iff.1 h
    obtain ⟨q2, hq2, h⟩ := wantO_iff.1 h
    obtain ⟨hn, h⟩ := need_iff.1 h
    obtain ⟨r, hr, h⟩ := h
    obtain ⟨h1, hK⟩ := need_iff.1 h
    refine ⟨_, hK, fun σ' hs K' k => ?_⟩
    simp only [vcallO]
    refine ⟨pre, t, g0, post, ha, ?_⟩
    rw [curA_loc hs.right.one, hc, wantO_some, pubWith_loc (fun _ _ => pub1uloc) hq1 hs.right.tl.tl.left, wantO_some, pubWith_loc (fun _ _ => pub1uloc) hq2 hs.right.tl.tl.right, wantO_some]
    exact need_iff.2 ⟨by rw [hs.right.tl.one]; exact hn, r, hr, need_iff.2 ⟨sites_loc hs h1, k⟩⟩
  · exact h.elim
theorem vcallN_loc {d : Option Nat} {f : L} {args : List L} : Loc (fun σ K => vcallN Sp σ d f args K) σ := fun K h => by
  simp only [vcallN] at h
  split at h
  · obtain ⟨pre, post, ha, h⟩ := h
    obtain ⟨q1, hq1, h⟩ := wantO_iff.1 h
    obtain ⟨q2, hq2, h⟩ := wantO_iff.1 h
    obtain ⟨hn, h⟩ := need_iff.1 h
    obtain ⟨r, hr, h⟩ := h
    obtain ⟨h1, hK⟩ := need_iff.1 h
    refine ⟨_, hK, fun σ' hs K' k => ?_⟩
    simp only [vcallN]
    refine ⟨pre, post, ha, ?_⟩
    rw [pubWith_loc (fun _ _ => pub1uloc) hq1 hs.right.left, wantO_some, pubWith_loc (fun _ _ => pub1uloc) hq2 hs.right.right, wantO_some]
    exact need_iff.2 ⟨hn, r, hr, need_iff.2 ⟨sites_loc hs h1, k⟩⟩
  · exact h.elim
theorem vcallF_loc {d : Option Nat} {f : L} {args : List L} : Loc (fun σ K => vcallF Sp σ d f args K) σ := fun K h => by
  rcases h with h | h
  · obtain ⟨e, hK, hl⟩ := vcallP_loc _ h
    exact ⟨e, hK, fun σ' hs K' k => .inl (hl σ' hs K' k)⟩
  · rcases h with h | h
    · obtain ⟨e, hK, hl⟩ := vcallO_loc _ h
      exact ⟨e, hK, fun σ' hs K' k => .inr (.inl (hl σ' hs K' k))⟩
    · obtain ⟨e, hK, hl⟩ := vcallN_loc _ h
      exact ⟨e, hK, fun σ' hs K' k => .inr (.inr (hl σ' hs K' k))⟩
theorem vmakeFunc_loc {f : FuncId} {first caps : List L} : Loc (fun σ K => vmakeFunc σ f first caps K) σ := fun K h => by
  simp only [vmakeFunc] at h
  obtain ⟨p, hp, h⟩ := wantO_iff.1 h
  obtain ⟨q, hq, hK⟩ := wantO_iff.1 h
  refine ⟨_, hK, fun σ' hs K' k => ?_⟩
  simp only [vmakeFunc]
  rw [pubWith_loc (fun _ _ => pub1uloc) hp hs.left, wantO_some, pubWith_loc (fun _ _ => pubO_loc) hq hs.right, wantO_some]
  exact k
theorem vfieldAddr_loc {t : TypeId} {x : L} {f : Nat} : Loc (fun σ K => vfieldAddr P σ t x f K) σ := fun K h => by
  simp only [vfieldAddr] at h
  obtain ⟨⟨t', off, n⟩, hf, h⟩ := wantO_iff.1 h
  split at h
  · obtain ⟨m, hm, h⟩ := wantO_iff.1 h
    obtain ⟨h1, hK⟩ := need_iff.1 h
    refine ⟨_, hK, fun σ' hs K' k => ?_⟩
    simp only [vfieldAddr, hf, wantO_some]
    rw [boxN_loc hs.one, hm, wantO_some]
    exact need_iff.2 ⟨h1, k⟩
  · obtain ⟨c, hc, hK⟩ := wantO_iff.1 h
    refine ⟨_, hK, fun σ' hs K' k => ?_⟩
    simp only [vfieldAddr, hf, wantO_some]
    rw [curA_loc hs.one, hc, wantO_some]
    exact k
  · exact ⟨_, h, fun σ' hs K' k => by simp only [vfieldAddr, hf, wantO_some]; exact k⟩
  · exact h.elim
theorem vlen_loc {t : TypeId} {x : L} : Loc (fun σ K => vlen σ P t x K) σ := fun K h => by
  unfold vlen at h
  split at h
  · rename_i ha
    exact ⟨_, h, fun σ' hs K' k => by unfold vlen; rw [ha]; exact k⟩
  · rename_i ha
    obtain ⟨h1, h⟩ := need_iff.1 h
    obtain ⟨⟨n, ks⟩, hl, hK⟩ := wantO_iff.1 h
    refine ⟨_, hK, fun σ' hs K' k => ?_⟩
    unfold vlen
    rw [ha]
    refine need_iff.2 ⟨h1, ?_⟩
    rw [lens_loc hl hs, wantO_some]; exact k
theorem vbin_loc {t : TypeId} {yc : Bool} {op : BinOp} {x y : L} : Loc (fun σ K => vbin P t yc σ op x y K) σ := fun K h => by
  unfold vbin at h
  split at h
  all_goals first
    | exact h.elim
    | (obtain ⟨_, he, h⟩ := wantO_iff.1 h
       obtain ⟨r, hr, hK⟩ := wantO_iff.1 h
       refine ⟨_, hK, fun σ' hs K' k => ?_⟩
       have hr' := isNil_loc hr hs
       unfold vbin
       split <;> simp_all [wantO])
    | (refine ⟨_, h, fun σ' hs K' k => ?_⟩; exact k)
    | (obtain ⟨h1, hK⟩ := need_iff.1 h
       refine ⟨_, hK, fun σ' hs K' k => ?_⟩; exact need_iff.2 ⟨h1, k⟩)
    | (obtain ⟨h1, h⟩ := need_iff.1 h
       obtain ⟨r, hr, hK⟩ := wantO_iff.1 h
       refine ⟨_, hK, fun σ' hs K' k => ?_⟩
       unfold vbin
       split <;> simp_all [wantO, need])
theorem vappZ_loc {d : Nat} {ts tx : TypeId} {s x : L} : Loc (fun σ K => vappZ P σ d ts tx s x K) σ := fun K h => by
  simp only [vappZ] at h
  obtain ⟨e, he, h⟩ := wantO_iff.1 h
  obtain ⟨es, hes, h⟩ := wantO_iff.1 h
  obtain ⟨by', hby, h⟩ := wantO_iff.1 h
  obtain ⟨z, hz, h⟩ := wantO_iff.1 h
  obtain ⟨ag, hag, h⟩ := wantO_iff.1 h
  obtain ⟨q, hq, h⟩ := wantO_iff.1 h
  obtain ⟨v, hv, h⟩ := wantO_iff.1 h
  have hz0 : ∀ (ls : List L) (σ1 : VS), (∀ l ∈ ls, (∀ t g, l ≠ .arr t g) ∧ ∀ t, l ≠ .bsl t) → pubWith (pub0 σ1) ls = pubWith (pub0 σ) ls := fun ls σ1 => by
    induction ls with
    | nil => intro _; rfl
    | cons l r ih =>
      intro hl
      have h1 : pub0 σ1 l = pub0 σ l := by
        cases l with
        | arr t g => exact ((hl _ (by simp)).1 t g rfl).elim
        | bsl t => exact ((hl _ (by simp)).2 t rfl).elim
        | _ => rfl
      simp only [pubWith, h1, ih fun l hm => hl l (List.mem_cons_of_mem _ hm)]
  have hzz : ∀ l ∈ z, (∀ t g, l ≠ L.arr t g) ∧ ∀ t, l ≠ L.bsl t := fun l hl => by
    unfold zeq at hz
    cases hi : ((P.info? e).bind (·.zero)) with
    | none => simp [hi] at hz
    | some v0 =>
      simp only [hi, Option.bind_some] at hz
      have : ∀ (vs : List Value) (ls : List L), vs.mapM scal = some ls → ∀ l ∈ ls, (∀ t g, l ≠ L.arr t g) ∧ ∀ t, l ≠ L.bsl t := by
        intro vs
        induction vs with
        | nil => intro ls h; simp at h; subst h; simp
        | cons v vs ih =>
          intro ls h
          simp only [List.mapM_cons, Option.bind_eq_bind, Option.bind_eq_some_iff, Option.pure_def, Option.some.injEq] at h
          obtain ⟨l1, h1, ls1, h2, rfl⟩ := h
          intro l hl
          rcases List.mem_cons.1 hl with rfl | hl
          · refine ⟨fun t g e => ?_, fun t e => ?_⟩ <;> (subst e; unfold scal at h1; split at h1 <;> simp at h1)
          · exact ih _ h2 l hl
      exact this _ _ hz _ hl
  split at h
  · obtain ⟨⟨h1, hk, h2, h3, h4, h5, h6⟩, hK⟩ := need_iff.1 h
    refine ⟨_, hK, fun σ' hs K' k => ?_⟩
    simp only [vappZ, he, hes, hby, hz, hag, wantO_some]
    rw [hz0 z σ' hzz, hq, wantO_some, hv, wantO_some]
    exact need_iff.2 ⟨⟨h1, hk, h2, h3, by rw [fresh_loc (hs (.b d) (by simp)) (hs (.a d) (by simp))]; exact h4, h5, h6⟩, k⟩
  · exact h.elim
end Go.Vm

namespace Go.Vm
variable {Γ : Nat → Option (List V)} {X : Ctx} {N : Nat} {ds : List Deferred} {σ σ' : VS} {a : Act} {w w' : World} {G G' : GG} {St St' : Nat → Nat → Prop} {own : Nat → Prop} {P : Program} {K : Eff → Prop} {Sp : FuncId → List V → R → Prop} {ops : Array Oper}

def Det (F : (Eff → Prop) → Prop) : Prop := ∀ K, F K → ∃ e, K e ∧ ∀ K' : Eff → Prop, K' e → F K'
theorem vpart_det {t : TypeId} {l : L} {off : Nat} : Det (fun K => vpart P t l off K) := fun K h => by
  simp only [vpart] at h
  obtain ⟨n, hn, h⟩ := wantO_iff.1 h
  obtain ⟨ag, hag, h⟩ := wantO_iff.1 h
  split at h
  · obtain ⟨cs, hcs, h⟩ := wantO_iff.1 h
    obtain ⟨v, hv, hK⟩ := wantO_iff.1 h
    exact ⟨_, hK, fun K' k => by simp only [vpart, hn, hag, wantO_some, hcs, hv]; exact k⟩
  · obtain ⟨h1, h⟩ := need_iff.1 h
    obtain ⟨v, hv, hK⟩ := wantO_iff.1 h
    exact ⟨_, hK, fun K' k => by simp only [vpart, hn, hag, wantO_some, hv]; exact need_iff.2 ⟨h1, k⟩⟩
  · exact h.elim
theorem vindex_arr {t : TypeId} {x : L} {k : IntKind} {n : Int} (hx : ∀ s, x ≠ .p (.s s)) : vindex P t x (.p (.i k n)) K = wantO (arq P t) fun (len, e) => wantO (szq P e) fun es => need (0 ≤ n ∧ n < len) (vpart P e x (n.toNat * es) K) := by
  cases x with
  | p v =>
    cases v with
    | s s => exact (hx s rfl).elim
    | _ => rfl
  | _ => rfl
theorem vindex_det {t : TypeId} {x i : L} : Det (fun K => vindex P t x i K) := fun K h => by
  by_cases hi : ∃ k n, i = .p (.i k n)
  · obtain ⟨k, n, rfl⟩ := hi
    by_cases hx : ∃ s, x = .p (.s s)
    · obtain ⟨s, rfl⟩ := hx
      simp only [vindex] at h
      obtain ⟨h1, hK⟩ := need_iff.1 h
      exact ⟨_, hK, fun K' k => by simp only [vindex]; exact need_iff.2 ⟨h1, k⟩⟩
    · have hx : ∀ s, x ≠ .p (.s s) := fun s e => hx ⟨s, e⟩
      simp only [vindex_arr hx] at h ⊢
      obtain ⟨⟨len, e⟩, he, h2⟩ := wantO_iff.1 h
      obtain ⟨es, hes, h3⟩ := wantO_iff.1 h2
      obtain ⟨h1, h4⟩ := need_iff.1 h3
      obtain ⟨ef, hK, hd⟩ := vpart_det _ h4
      exact ⟨ef, hK, fun K' k => by simp only [he, hes, wantO_some]; exact need_iff.2 ⟨h1, hd _ k⟩⟩
  · exfalso
    unfold vindex at h
    split at h
    · exact hi ⟨_, _, rfl⟩
    · exact hi ⟨_, _, rfl⟩
    · exact h
theorem vun_det {op : UnOp} {x : L} : Det (fun K => vun op x K) := fun K h => by
  unfold vun at h
  split at h
  · exact ⟨_, h, fun K' k => k⟩
  · exact ⟨_, h, fun K' k => k⟩
  · exact h.elim
theorem vextract_det {x : L} {i : Nat} : Det (fun K => vextract x i K) := fun K h => by
  unfold vextract at h
  split at h
  · obtain ⟨l, hl, hK⟩ := wantO_iff.1 h
    exact ⟨_, hK, fun K' k => by unfold vextract; simp only [hl, wantO_some]; exact k⟩
  · exact h.elim
theorem vminmax_det {mx : Bool} {ls : List L} : Det (fun K => vminmax mx ls K) := fun K h => by
  unfold vminmax at h
  split at h
  · obtain ⟨l, hl, hK⟩ := wantO_iff.1 h
    exact ⟨_, hK, fun K' k => by unfold vminmax; simp only [hl, wantO_some]; exact k⟩
  · exact h.elim
theorem vconv_det {s d : TypeId} {x : L} : Det (fun K => vconv P s d x K) := fun K h => by
  unfold vconv at h
  split at h
  · rename_i h1 h2
    exact ⟨_, h, fun K' k => by unfold vconv; rw [h1, h2]; exact k⟩
  · rename_i h1 h2
    obtain ⟨h3, h4⟩ := need_iff.1 h
    exact ⟨_, h4, fun K' k => by unfold vconv; rw [h1, h2]; exact need_iff.2 ⟨h3, k⟩⟩
  · exact h.elim
theorem vfield_det {t : TypeId} {x : L} {f : Nat} : Det (fun K => vfield P t x f K) := fun K h => by
  unfold vfield at h
  obtain ⟨⟨e, off, n⟩, he, h⟩ := wantO_iff.1 h
  obtain ⟨ef, hK, hd⟩ := vpart_det _ h
  exact ⟨ef, hK, fun K' k => by show vfield P t x f K'; unfold vfield; rw [he, wantO_some]; exact hd _ k⟩

def sees (op : Op) : List Tmp := op.operands.toList.filterMap fun | .tmp t => some t | _ => none
theorem ev_loc {x : Operand} {l : List Operand} (hx : x ∈ l) (h : ∀ t ∈ l.filterMap (fun | .tmp t => some t | _ => none), σ'.get t = σ.get t) : σ'.ev Γ x = σ.ev Γ x := by
  cases x with
  | tmp t => exact h t (List.mem_filterMap.2 ⟨_, hx, rfl⟩)
  | _ => rfl

theorem vop_loc {dst : Option Nat} {op : Op} (h : vop P Γ Sp σ dst op K) : ∃ e, K e ∧ ∀ σ', (∀ t ∈ sees op, σ'.get t = σ.get t) → Same σ σ' e.rd → ∀ K' : Eff → Prop, K' e → vop P Γ Sp σ' dst op K' := by
  have tolst : ∀ {o : Option Operand} {σ' : VS}, (∀ x, o = some x → σ'.ev Γ x = σ.ev Γ x) → o.map (σ'.ev Γ) = o.map (σ.ev Γ) := fun {o} {σ'} h => by
    cases o with
    | none => rfl
    | some x => simp [h x rfl]
  have lst : ∀ {l : List Operand} {σ' : VS}, (∀ x ∈ l, σ'.ev Γ x = σ.ev Γ x) → l.map (σ'.ev Γ) = l.map (σ.ev Γ) := fun h => List.map_congr_left h
  unfold vop at h
  split at h
  · exact ⟨_, h, fun σ' ht hs K' k => by unfold vop; simp only; rw [ev_loc (by simp [Op.operands]) ht]; exact k⟩
  · exact ⟨_, h, fun σ' ht hs K' k => by unfold vop; simp only; rw [ev_loc (by simp [Op.operands]) ht]; exact k⟩
  · rename_i c x y
    unfold vbool at h
    split at h
    · rename_i b hb
      cases b with
      | true => exact ⟨_, h.1 rfl, fun σ' ht hs K' k => by unfold vop; simp only; rw [ev_loc (x := c) (by simp [Op.operands]) ht, ev_loc (x := x) (by simp [Op.operands]) ht, hb, vbool_true]; exact k⟩
      | false => exact ⟨_, h.2 rfl, fun σ' ht hs K' k => by unfold vop; simp only; rw [ev_loc (x := c) (by simp [Op.operands]) ht, ev_loc (x := y) (by simp [Op.operands]) ht, hb, vbool_false]; exact k⟩
    · exact h.elim
  · obtain ⟨d, rfl, h2⟩ := wantO_iff.1 h
    obtain ⟨ls, hl, h3⟩ := wantO_iff.1 h2
    obtain ⟨e, hK, hd⟩ := newBox_loc _ h3
    exact ⟨e, hK, fun σ' ht hs K' k => by unfold vop; simp only [wantO_some, hl]; exact hd σ' hs K' k⟩
  · obtain ⟨d, rfl, h2⟩ := wantO_iff.1 h
    obtain ⟨e, hK, hd⟩ := newBox_loc _ h2
    exact ⟨e, hK, fun σ' ht hs K' k => by unfold vop; simp only [wantO_some]; rw [ev_loc (by simp [Op.operands]) ht]; exact hd σ' hs K' k⟩
  · rename_i t ps
    obtain ⟨z, hz, h⟩ := wantO_iff.1 h
    obtain ⟨pl, hp, h⟩ := wantO_iff.1 h
    obtain ⟨ls, hl, h⟩ := wantO_iff.1 h
    obtain ⟨h1, hK⟩ := need_iff.1 h
    refine ⟨_, hK, fun σ' ht hs K' k => ?_⟩
    have hm : ∀ x ∈ ps.toList, σ'.ev Γ x.2 = σ.ev Γ x.2 := fun x hx => ev_loc (l := (Op.build t ps).operands.toList) (by simp only [Op.operands, List.toList_toArray]; exact List.mem_map.2 ⟨x, hx, rfl⟩) ht
    have e1 : (ps.toList.map fun x => (x.1, (σ'.ev Γ x.2).cells)) = ps.toList.map fun x => (x.1, (σ.ev Γ x.2).cells) := List.map_congr_left fun x hx => by rw [hm x hx]
    have e2 : (ps.toList.all fun x => (σ'.ev Γ x.2).cells.all L.isCell) = true := by
      rw [List.all_eq_true] at h1 ⊢
      intro x hx; rw [hm x hx]; exact h1 x hx
    unfold vop
    simp only [hz, hp, wantO_some, e1, hl]
    exact need_iff.2 ⟨e2, k⟩
  · rename_i t n ps
    obtain ⟨d, rfl, h2⟩ := wantO_iff.1 h
    obtain ⟨e, hK, hd⟩ := vbuildSlice_loc _ h2
    refine ⟨e, hK, fun σ' ht hs K' k => ?_⟩
    have hm : ∀ x ∈ ps.toList, σ'.ev Γ x.2 = σ.ev Γ x.2 := fun x hx => ev_loc (l := (Op.buildSlice t n ps).operands.toList) (by simp only [Op.operands, List.toList_toArray]; exact List.mem_map.2 ⟨x, hx, rfl⟩) ht
    have e1 : (ps.toList.map fun x => σ'.ev Γ x.2) = ps.toList.map fun x => σ.ev Γ x.2 := List.map_congr_left fun x hx => hm x hx
    unfold vop
    simp only [wantO_some, e1]
    exact hd σ' hs K' k
  · rename_i t x
    obtain ⟨e, hK, hd⟩ := vload_loc _ h
    exact ⟨e, hK, fun σ' ht hs K' k => by unfold vop; simp only; rw [ev_loc (by simp [Op.operands]) ht]; exact hd σ' hs K' k⟩
  · rename_i t x y
    obtain ⟨e, hK, hd⟩ := vstore_loc _ h
    exact ⟨e, hK, fun σ' ht hs K' k => by unfold vop; simp only; rw [ev_loc (x := x) (by simp [Op.operands]) ht, ev_loc (x := y) (by simp [Op.operands]) ht]; exact hd σ' hs K' k⟩
  · rename_i op t x y t2
    obtain ⟨e, hK, hd⟩ := vbin_loc _ h
    exact ⟨e, hK, fun σ' ht hs K' k => by unfold vop; simp only; rw [ev_loc (x := x) (by simp [Op.operands]) ht, ev_loc (x := y) (by simp [Op.operands]) ht]; exact hd σ' hs K' k⟩
  · obtain ⟨e, hK, hd⟩ := vun_det _ h
    exact ⟨e, hK, fun σ' ht hs K' k => by unfold vop; simp only; rw [ev_loc (by simp [Op.operands]) ht]; exact hd K' k⟩
  · obtain ⟨e, hK, hd⟩ := vconv_det _ h
    exact ⟨e, hK, fun σ' ht hs K' k => by unfold vop; simp only; rw [ev_loc (by simp [Op.operands]) ht]; exact hd K' k⟩
  · rename_i f first caps
    obtain ⟨e, hK, hd⟩ := vmakeFunc_loc _ h
    refine ⟨e, hK, fun σ' ht hs K' k => ?_⟩
    unfold vop
    simp only
    rw [lst (l := first.toList) (σ' := σ') fun x hx => ev_loc (by simp only [Op.operands, Array.toList_append]; exact List.mem_append_left _ hx) ht, lst (l := caps.toList) (σ' := σ') fun x hx => ev_loc (by simp only [Op.operands, Array.toList_append]; exact List.mem_append_right _ hx) ht]
    exact hd σ' hs K' k
  · rename_i t x y
    obtain ⟨d, rfl, h2⟩ := wantO_iff.1 h
    obtain ⟨e, hK, hd⟩ := vmakeSlice_loc _ h2
    exact ⟨e, hK, fun σ' ht hs K' k => by unfold vop; simp only [wantO_some]; rw [ev_loc (x := x) (by simp [Op.operands]) ht, ev_loc (x := y) (by simp [Op.operands]) ht]; exact hd σ' hs K' k⟩
  · rename_i t x lo hi mx
    obtain ⟨e, hK, hd⟩ := vsl_loc _ h
    refine ⟨e, hK, fun σ' ht hs K' k => ?_⟩
    unfold vop
    simp only
    rw [ev_loc (x := x) (by simp [Op.operands]) ht, tolst (o := lo) (σ' := σ') fun x hx => ev_loc (by subst hx; simp [Op.operands]) ht, tolst (o := hi) (σ' := σ') fun x hx => ev_loc (by subst hx; simp [Op.operands]) ht, tolst (o := mx) (σ' := σ') fun x hx => ev_loc (by subst hx; simp [Op.operands]) ht]
    exact hd σ' hs K' k
  · obtain ⟨e, hK, hd⟩ := vfieldAddr_loc _ h
    exact ⟨e, hK, fun σ' ht hs K' k => by unfold vop; simp only; rw [ev_loc (by simp [Op.operands]) ht]; exact hd σ' hs K' k⟩
  · obtain ⟨e, hK, hd⟩ := vfield_det _ h
    exact ⟨e, hK, fun σ' ht hs K' k => by unfold vop; simp only; rw [ev_loc (by simp [Op.operands]) ht]; exact hd K' k⟩
  · rename_i t x y
    obtain ⟨e, hK, hd⟩ := vindexAddr_loc _ h
    exact ⟨e, hK, fun σ' ht hs K' k => by unfold vop; simp only; rw [ev_loc (x := x) (by simp [Op.operands]) ht, ev_loc (x := y) (by simp [Op.operands]) ht]; exact hd σ' hs K' k⟩
  · rename_i t x y
    obtain ⟨e, hK, hd⟩ := vindex_det _ h
    exact ⟨e, hK, fun σ' ht hs K' k => by unfold vop; simp only; rw [ev_loc (x := x) (by simp [Op.operands]) ht, ev_loc (x := y) (by simp [Op.operands]) ht]; exact hd K' k⟩
  · obtain ⟨e, hK, hd⟩ := vextract_det _ h
    exact ⟨e, hK, fun σ' ht hs K' k => by unfold vop; simp only; rw [ev_loc (by simp [Op.operands]) ht]; exact hd K' k⟩
  · rename_i f args ats
    obtain ⟨e, hK, hd⟩ := vcallF_loc _ h
    refine ⟨e, hK, fun σ' ht hs K' k => ?_⟩
    unfold vop
    simp only
    rw [ev_loc (x := f) (by simp [Op.operands, Call.operands]) ht, lst (l := args.toList) (σ' := σ') fun x hx => ev_loc (by simp only [Op.operands, Call.operands, Array.toList_append]; exact List.mem_append_right _ hx) ht]
    exact hd σ' hs K' k
  · rename_i b args ats
    have ha : ∀ {σ' : VS}, (∀ t ∈ sees (.call ⟨.builtin b, args, ats⟩), σ'.get t = σ.get t) → ∀ x ∈ args.toList, σ'.ev Γ x = σ.ev Γ x := fun ht x hx => ev_loc (by simp only [Op.operands, Call.operands, Array.toList_append]; exact List.mem_append_right _ hx) ht
    generalize sees (.call ⟨.builtin b, args, ats⟩) = S at ha ⊢
    have go : ∀ (al : List Operand) (tl : List TypeId), (∀ {σ' : VS}, (∀ t ∈ S, σ'.get t = σ.get t) → ∀ x ∈ al, σ'.ev Γ x = σ.ev Γ x) → vbuiltin P Γ σ dst b al tl K → ∃ e, K e ∧ ∀ σ', (∀ t ∈ S, σ'.get t = σ.get t) → Same σ σ' e.rd → ∀ K' : Eff → Prop, K' e → vbuiltin P Γ σ' dst b al tl K' := by
      intro al tl ha h
      unfold vbuiltin at h
      split at h
      · obtain ⟨e, hK, hd⟩ := vlen_loc _ h
        exact ⟨e, hK, fun σ' ht hs K' k => by unfold vbuiltin; simp only; rw [ha ht _ (by simp)]; exact hd σ' hs K' k⟩
      · obtain ⟨e, hK, hd⟩ := vminmax_det _ h
        exact ⟨e, hK, fun σ' ht hs K' k => by unfold vbuiltin; simp only; rw [lst (ha ht)]; exact hd K' k⟩
      · obtain ⟨e, hK, hd⟩ := vminmax_det _ h
        exact ⟨e, hK, fun σ' ht hs K' k => by unfold vbuiltin; simp only; rw [lst (ha ht)]; exact hd K' k⟩
      · rename_i s x ts tx _
        obtain ⟨d, rfl, h2⟩ := wantO_iff.1 h
        by_cases heq : ts = tx
        · rw [if_pos heq] at h2
          obtain ⟨e, hK, hd⟩ := vappend_loc _ h2
          exact ⟨e, hK, fun σ' ht hs K' k => by unfold vbuiltin; simp only [wantO_some]; rw [ha ht s (by simp), ha ht x (by simp), if_pos heq]; exact hd σ' hs K' k⟩
        · rw [if_neg heq] at h2
          obtain ⟨e, hK, hd⟩ := vappZ_loc _ h2
          exact ⟨e, hK, fun σ' ht hs K' k => by unfold vbuiltin; simp only [wantO_some]; rw [ha ht s (by simp), ha ht x (by simp), if_neg heq]; exact hd σ' hs K' k⟩
      · rename_i x t _
        obtain ⟨h1, hK⟩ := need_iff.1 h
        exact ⟨_, hK, fun σ' ht hs K' k => by unfold vbuiltin; simp only; rw [ha ht _ (by simp)]; exact need_iff.2 ⟨h1, k⟩⟩
      · rename_i s x ts tx _
        obtain ⟨h1, h3⟩ := need_iff.1 h
        obtain ⟨e, hK, hd⟩ := vcopy_loc _ h3
        exact ⟨e, hK, fun σ' ht hs K' k => by unfold vbuiltin; simp only; rw [ha ht s (by simp), ha ht x (by simp)]; exact need_iff.2 ⟨h1, hd σ' hs K' k⟩⟩
      · exact h.elim
    exact go _ _ ha h
  · exact h.elim
end Go.Vm

namespace Go.Vm
variable {Γ : Nat → Option (List V)} {X : Ctx} {N : Nat} {ds : List Deferred} {σ σ' : VS} {a : Act} {w w' : World} {G G' : GG} {St St' : Nat → Nat → Prop} {own : Nat → Prop} {P : Program} {K : Eff → Prop} {Sp : FuncId → List V → R → Prop} {ops : Array Oper}

def vguard (l : L) (want : Bool) (A B : Prop) : Prop := match l with | .p (.b x) => (x = want → A) ∧ (x ≠ want → B) | .tup [] => B | _ => False
@[congr] theorem vguard_congr {l l' : L} {want : Bool} {A B : Prop} (h : l = l') : vguard l want A B = vguard l' want A B := by rw [h]
theorem vguard_same {x : Bool} {A B : Prop} : vguard (.p (.b x)) x A B = A := by simp [vguard]
theorem vguard_tt {A B : Prop} : vguard (.p (.b true)) true A B = A := vguard_same
theorem vguard_ff {A B : Prop} : vguard (.p (.b false)) false A B = A := vguard_same
theorem vguard_tf {A B : Prop} : vguard (.p (.b true)) false A B = B := by simp [vguard]
theorem vguard_ft {A B : Prop} : vguard (.p (.b false)) true A B = B := by simp [vguard]
theorem vguard_un {w : Bool} {A B : Prop} : vguard (.tup []) w A B = B := rfl
theorem vguard_iff {x want : Bool} {A B : Prop} (h1 : x = want → A) (h2 : x ≠ want → B) : vguard (.p (.b x)) want A B := ⟨h1, h2⟩

def gdst (ops : Array Oper) (j : Nat) : Option Tmp := (ops[j]?).bind (·.dst)
def noEff : Eff := ⟨.tup [], [], []⟩
def vstep (P : Program) (Γ : Nat → Option (List V)) (Sp : FuncId → List V → R → Prop) (ops : Array Oper) (σ : VS) (o : Oper) (K : Eff → Prop) : Prop :=
  match o.guard with
  | none => vop P Γ Sp σ o.dst o.op K
  | some (j, want) => wantO (gdst ops j) fun d => vguard (σ.get d) want (vop P Γ Sp σ o.dst o.op K) (K noEff)

theorem vstep_loc {o : Oper} (h : vstep P Γ Sp ops σ o K) : ∃ e, K e ∧ ∀ σ', (∀ t ∈ o.looksAt ops, σ'.get t = σ.get t) → Same σ σ' e.rd → ∀ K' : Eff → Prop, K' e → vstep P Γ Sp ops σ' o K' := by
  have hops : ∀ {σ' : VS}, (∀ t ∈ o.looksAt ops, σ'.get t = σ.get t) → ∀ t ∈ sees o.op, σ'.get t = σ.get t := fun h t ht => h t (List.mem_append_left _ ht)
  unfold vstep at h
  split at h
  · rename_i hg
    obtain ⟨e, hK, hd⟩ := vop_loc h
    exact ⟨e, hK, fun σ' ht hs K' k => by unfold vstep; rw [hg]; exact hd σ' (hops ht) hs K' k⟩
  · rename_i j want hg
    obtain ⟨d, hd, h2⟩ := wantO_iff.1 h
    have hgd : ∀ {σ' : VS}, (∀ t ∈ o.looksAt ops, σ'.get t = σ.get t) → σ'.get d = σ.get d := fun h => h d (List.mem_append_right _ (by unfold gdst at hd; simp [hg, hd]))
    unfold vguard at h2
    split at h2
    · rename_i x hx
      by_cases hxw : x = want
      · obtain ⟨e, hK, hdd⟩ := vop_loc (h2.1 hxw)
        refine ⟨e, hK, fun σ' ht hs K' k => ?_⟩
        unfold vstep
        rw [hg]
        simp only [hd, wantO_some]
        rw [hgd ht, hx]
        exact vguard_iff (fun _ => hdd σ' (hops ht) hs K' k) (fun hn => (hn hxw).elim)
      · refine ⟨_, h2.2 hxw, fun σ' ht hs K' k => ?_⟩
        unfold vstep
        rw [hg]
        simp only [hd, wantO_some]
        rw [hgd ht, hx]
        exact vguard_iff (fun hn => (hxw hn).elim) (fun _ => k)
    · rename_i hx
      refine ⟨_, h2, fun σ' ht hs K' k => ?_⟩
      unfold vstep
      rw [hg]
      simp only [hd, wantO_some]
      rw [hgd ht, hx]
      exact k
    · exact h2.elim

theorem step_sound (hSp : ∀ f args r, Sp f args r → Spec P Γ f args r) (h : Rp Γ X N ds σ a w) {o : Oper} (hd : ∀ d, o.dst = some d → d < N) (hk : vstep P Γ Sp ops σ o K) :
    ∃ e, K e ∧ ∀ (ro : Option Nat) (n : Nat) (next : Act → World → Prop) (Q : Exit → Act → World → Prop), (∀ a' w', Rp Γ X N ds (σ.apply o.dst e) a' w' → next a' w') →
      if Region.wanted o (yielded ops a.tmps) = true then o.wpIn (fr ro) n P a w next Q else (∀ f, o.about P w a.eval = some f → (fr ro).fn f) ∧ next (a.put o.dst undef) w := by
  obtain ⟨G, St, own, h⟩ := h
  unfold vstep at hk
  split at hk
  · rename_i hg
    obtain ⟨e, hK, hs⟩ := op_sound hSp h hd hk
    refine ⟨e, hK, fun ro n next Q hn => ?_⟩
    have : Region.wanted o (yielded ops a.tmps) = true := by unfold Region.wanted; rw [hg]
    rw [if_pos this]
    exact hs ro n next Q hn
  · rename_i j want hg
    obtain ⟨d, hdd, h2⟩ := wantO_iff.1 hk
    have hsl := h.slots d
    have hyd : yielded ops a.tmps j = match a.tmps[d]? with | some (.bool b) => some b | _ => none := by
      unfold yielded; unfold gdst at hdd; rw [hdd]; rfl
    have hskip : K noEff → Region.wanted o (yielded ops a.tmps) = false → ∃ e, K e ∧ ∀ (ro : Option Nat) (n : Nat) (next : Act → World → Prop) (Q : Exit → Act → World → Prop), (∀ a' w', Rp Γ X N ds (σ.apply o.dst e) a' w' → next a' w') →
      if Region.wanted o (yielded ops a.tmps) = true then o.wpIn (fr ro) n P a w next Q else (∀ f, o.about P w a.eval = some f → (fr ro).fn f) ∧ next (a.put o.dst undef) w := fun hK hw => by
      refine ⟨_, hK, fun ro n next Q hn => ?_⟩
      rw [hw, if_neg (by simp)]
      exact ⟨fun _ _ => trivial, hn _ _ ⟨G, St, own, h.putO hd (l := .tup []) (v := undef) (by simp [repLv, repLs, undef])⟩⟩
    unfold vguard at h2
    split at h2
    · rename_i x hx
      rw [hx] at hsl
      have hb := pbool hsl
      have hy : yielded ops a.tmps j = some x := by
        rw [hyd]
        cases ht : a.tmps[d]? with
        | none => simp [Array.getD_eq_getD_getElem?, ht, undef] at hb
        | some v =>
          simp [Array.getD_eq_getD_getElem?, ht] at hb
          subst hb; rfl
      by_cases hxw : x = want
      · obtain ⟨e, hK, hs⟩ := op_sound hSp h hd (h2.1 hxw)
        refine ⟨e, hK, fun ro n next Q hn => ?_⟩
        have : Region.wanted o (yielded ops a.tmps) = true := by unfold Region.wanted; rw [hg]; simp [hy, hxw]
        rw [if_pos this]
        exact hs ro n next Q hn
      · exact hskip (h2.2 hxw) (by unfold Region.wanted; rw [hg]; simp [hy, hxw])
    · rename_i hx
      rw [hx] at hsl
      simp only [repLv, repLs] at hsl
      obtain ⟨vs, h1, h3⟩ := hsl
      refine hskip h2 ?_
      unfold Region.wanted
      rw [hg]
      simp only [hyd]
      cases ht : a.tmps[d]? with
      | none => rfl
      | some v =>
        simp [Array.getD_eq_getD_getElem?, ht] at h1
        subst h1; rfl
    · exact h2.elim

def vops (P : Program) (Γ : Nat → Option (List V)) (Sp : FuncId → List V → R → Prop) (ops : Array Oper) : List Oper → VS → (VS → Prop) → Prop
  | [], σ, K => K σ
  | o :: r, σ, K => vstep P Γ Sp ops σ o fun e => vops P Γ Sp ops r (σ.apply o.dst e) K

def dstsB (N : Nat) (ops : List Oper) : Bool := ops.all fun o => match o.dst with | some d => decide (d < N) | none => true
theorem dsts_spec {l : List Oper} (h : dstsB N l = true) : ∀ o ∈ l, ∀ d, o.dst = some d → d < N := fun o ho d hd => by
  have := List.all_eq_true.1 h o ho
  simpa [hd] using this

theorem list_sound (hSp : ∀ f args r, Sp f args r → Spec P Γ f args r) {ro : Option Nat} {n : Nat} {Q : Exit → Act → World → Prop} {C : VS → Prop} : ∀ {l : List Oper} {σ : VS} {a : Act} {w : World}, Rp Γ X N ds σ a w → (∀ o ∈ l, ∀ d, o.dst = some d → d < N) → vops P Γ Sp ops l σ C →
    (∀ σ' a' w', C σ' → Rp Γ X N ds σ' a' w' → Q .normal a' w') → wpListIn (fr ro) n P ops Q l a w
  | [], σ, a, w, h, _, hk, hQ => hQ _ _ _ hk h
  | o :: r, σ, a, w, h, hd, hk, hQ => by
    simp only [vops] at hk
    obtain ⟨e, hK, hs⟩ := step_sound (ops := ops) hSp h (hd o (by simp)) hk
    simp only [wpListIn]
    exact hs ro n _ Q fun a' w' h' => list_sound hSp h' (fun o ho => hd o (List.mem_cons_of_mem _ ho)) hK hQ

theorem region_sound (hSp : ∀ f args r, Sp f args r → Spec P Γ f args r) {ro : Option Nat} {n id : Nat} {Q : Exit → Act → World → Prop} {C : VS → Prop} {l : List Oper} (h : Rp Γ X N ds σ a w) (hd : dstsB N l = true) (hk : vops P Γ Sp l.toArray l σ C)
    (hQ : ∀ σ' a' w', C σ' → Rp Γ X N ds σ' a' w' → Q .normal a' w') : (Code.region id l.toArray false).wpIn (fr ro) n P Q a w :=
  wpIn_region_lit (list_sound hSp h (dsts_spec hd) hk hQ)

def M.isFrz : M → Bool | .frz => true | _ => false
abbrev Tr := List Key × List (Key × Bool)
def Eff.tr (e : Eff) : Tr := (e.rd, e.wr.map fun x => (x.1, x.2.isFrz))
def kapart (x y : Tr) : Bool :=
  (x.2.all fun k => !y.1.contains k.1) && (y.2.all fun k => !x.1.contains k.1) && (x.2.all fun k => y.2.all fun k' => k.1 != k'.1 || (k.2 && k'.2))
def waitsOn (o : Oper) (i : Nat) : Bool := o.after.any fun e => Region.binds .any e && e.on == i
def waits2 (ops : Array Oper) (o : Oper) (i : Nat) : Bool := o.after.any fun e => Region.binds .any e && match ops[e.on]? with | some o' => waitsOn o' i | none => false
def indepOk (ops : Array Oper) (tr : List Tr) : Bool :=
  (List.range ops.size).all fun j => match ops[j]?, tr[j]? with
    | some oj, some tj => (oj.after.all fun e => !Region.binds .any e || decide (e.on < j)) && (List.range j).all fun i => match ops[i]?, tr[i]? with
      | some oi, some ti => waitsOn oj i || (oi.apart ops oj && kapart ti tj) || waits2 ops oj i
      | _, _ => false
    | _, _ => false
def vopsD (P : Program) (Γ : Nat → Option (List V)) (Sp : FuncId → List V → R → Prop) (ops : Array Oper) : List Oper → List Tr → VS → (VS → Prop) → Prop
  | [], tr, σ, K => need (indepOk ops tr.reverse = true) (K σ)
  | o :: r, tr, σ, K => vstep P Γ Sp ops σ o fun e => vopsD P Γ Sp ops r (e.tr :: tr) (σ.apply o.dst e) K

def Trace (P : Program) (Γ : Nat → Option (List V)) (Sp : FuncId → List V → R → Prop) (ops : Array Oper) : List Oper → List Eff → VS → Prop
  | [], [], _ => True
  | o :: r, e :: es, σ => (∀ σ', (∀ t ∈ o.looksAt ops, σ'.get t = σ.get t) → Same σ σ' e.rd → ∀ K' : Eff → Prop, K' e → vstep P Γ Sp ops σ' o K') ∧ Trace P Γ Sp ops r es (σ.apply o.dst e)
  | _, _, _ => False
def runS : List Oper → List Eff → Nat → (Nat → Bool) → VS → VS
  | o :: r, e :: es, k, S, σ => runS r es (k + 1) S (if S k then σ.apply o.dst e else σ)
  | _, _, _, _, σ => σ

theorem vopsD_trace {C : VS → Prop} : ∀ {l : List Oper} {tr : List Tr} {σ : VS}, vopsD P Γ Sp ops l tr σ C → ∃ E, Trace P Γ Sp ops l E σ ∧ indepOk ops (tr.reverse ++ E.map Eff.tr) = true ∧ ∀ k, C (runS l E k (fun _ => true) σ)
  | [], tr, σ, h => by
    obtain ⟨h1, h2⟩ := need_iff.1 h
    exact ⟨[], trivial, by simpa using h1, fun _ => h2⟩
  | o :: r, tr, σ, h => by
    simp only [vopsD] at h
    obtain ⟨e, hK, hd⟩ := vstep_loc h
    obtain ⟨E, h1, h2, h3⟩ := vopsD_trace hK
    refine ⟨e :: E, ⟨hd, h1⟩, by simpa using h2, fun k => ?_⟩
    simp only [runS, if_true]
    exact h3 (k + 1)

theorem Trace.len : ∀ {l : List Oper} {E : List Eff} {σ : VS}, Trace P Γ Sp ops l E σ → l.length = E.length
  | [], [], _, _ => rfl
  | o :: r, e :: es, σ, h => by simp only [Trace] at h; simp [Trace.len h.2]

theorem Trace.at : ∀ {l : List Oper} {E : List Eff} {σ : VS} (k : Nat), Trace P Γ Sp ops l E σ → ∀ i o e, l[i]? = some o → E[i]? = some e →
    ∀ σ', (∀ t ∈ o.looksAt ops, σ'.get t = (runS l E k (fun m => decide (m < k + i)) σ).get t) → Same (runS l E k (fun m => decide (m < k + i)) σ) σ' e.rd → ∀ K' : Eff → Prop, K' e → vstep P Γ Sp ops σ' o K'
  | [], [], σ, k, _, i, o, e, h1, _ => by simp at h1
  | o :: r, e :: es, σ, k, h, i, o', e', h1, h2 => by
    simp only [Trace] at h
    have none : ∀ (r : List Oper) (es : List Eff) (k m : Nat) (σ : VS), m ≤ k → runS r es k (fun j => decide (j < m)) σ = σ := by
      intro r
      induction r with
      | nil => intro es k m σ _; cases es <;> rfl
      | cons o r ih =>
        intro es k m σ hm
        cases es with
        | nil => rfl
        | cons e es => simp only [runS]; rw [if_neg (by simp; omega)]; exact ih es (k + 1) m σ (by omega)
    cases i with
    | zero =>
      simp at h1 h2
      subst h1 h2
      intro σ' ht hs K' hk
      rw [none _ _ _ _ _ (by omega)] at ht hs
      exact h.1 σ' ht hs K' hk
    | succ i =>
      intro σ' ht hs K' hk
      refine Trace.at (k + 1) h.2 i o' e' (by simpa using h1) (by simpa using h2) σ' ?_ ?_ K' hk
      · have e0 : runS (o :: r) (e :: es) k (fun m => decide (m < k + (i + 1))) σ = runS r es (k + 1) (fun m => decide (m < k + 1 + i)) (σ.apply o.dst e) := by
          simp only [runS]
          rw [if_pos (by simp)]
          congr 1
          funext m
          congr 1
          simp; omega
        rw [← e0]; exact ht
      · have e0 : runS (o :: r) (e :: es) k (fun m => decide (m < k + (i + 1))) σ = runS r es (k + 1) (fun m => decide (m < k + 1 + i)) (σ.apply o.dst e) := by
          simp only [runS]
          rw [if_pos (by simp)]
          congr 1
          funext m
          congr 1
          simp; omega
        rw [← e0]; exact hs

theorem apply_get (σ : VS) (d : Option Nat) (e : Eff) (t : Nat) : (σ.apply d e).get t = if d = some t then e.val else σ.get t := by
  cases d with
  | none => simp [VS.apply, VS.putO, VS.upd]
  | some d => simp only [VS.apply, VS.putO, VS.put, VS.upd, Option.some.injEq]; by_cases h : t = d <;> simp [h, eq_comm]
theorem apply_mem (σ : VS) (d : Option Nat) (e : Eff) (k : Key) : (σ.apply d e).mem k = look k (σ.mem k) e.wr := by
  cases d <;> rfl
theorem look_not {k : Key} {m : M} : ∀ {wr : List (Key × M)}, (∀ x ∈ wr, x.1 ≠ k) → look k m wr = m
  | [], _ => rfl
  | (k', v) :: r, h => by
    simp only [look]
    rw [if_neg (fun e => h (k', v) (by simp) e.symm)]
    exact look_not fun x hx => h x (List.mem_cons_of_mem _ hx)

theorem runS_get : ∀ {l : List Oper} {E : List Eff} {k : Nat} {S S' : Nat → Bool} {σ σ' : VS} {t : Nat}, σ.get t = σ'.get t → (∀ i o, l[i]? = some o → S (k + i) ≠ S' (k + i) → o.dst ≠ some t) → (runS l E k S σ).get t = (runS l E k S' σ').get t
  | [], E, k, S, S', σ, σ', t, h, _ => by cases E <;> exact h
  | o :: r, [], k, S, S', σ, σ', t, h, _ => h
  | o :: r, e :: es, k, S, S', σ, σ', t, h, hd => by
    simp only [runS]
    refine runS_get ?_ fun i o' hi hne => hd (i + 1) o' (by simpa using hi) (by rw [show k + (i + 1) = k + 1 + i by omega]; exact hne)
    by_cases hs : S k = S' k
    · rw [hs]; split
      · rw [apply_get, apply_get, h]
      · exact h
    · have := hd 0 o rfl hs
      split <;> split <;> simp only [apply_get, this, if_false, h]
theorem runS_mem : ∀ {l : List Oper} {E : List Eff} {k : Nat} {S S' : Nat → Bool} {σ σ' : VS} {κ : Key}, σ.mem κ = σ'.mem κ → (∀ (i : Nat) (e : Eff), E[i]? = some e → S (k + i) ≠ S' (k + i) → ∀ x ∈ e.wr, x.1 ≠ κ) → (runS l E k S σ).mem κ = (runS l E k S' σ').mem κ
  | [], E, k, S, S', σ, σ', κ, h, _ => by cases E <;> exact h
  | o :: r, [], k, S, S', σ, σ', κ, h, _ => h
  | o :: r, e :: es, k, S, S', σ, σ', κ, h, hd => by
    simp only [runS]
    refine runS_mem ?_ fun i e' hi hne => hd (i + 1) e' (by simpa using hi) (by rw [show k + (i + 1) = k + 1 + i by omega]; exact hne)
    by_cases hs : S k = S' k
    · rw [hs]; split
      · rw [apply_mem, apply_mem, h]
      · exact h
    · have := hd 0 e rfl hs
      split <;> split <;> simp only [apply_mem, look_not this, h]
end Go.Vm

namespace Go.Vm
variable {Γ : Nat → Option (List V)} {X : Ctx} {N : Nat} {ds : List Deferred} {σ : VS} {a : Act} {w w' : World} {G G' : GG} {St St' : Nat → Nat → Prop} {own : Nat → Prop} {P : Program} {K : Eff → Prop} {Sp : FuncId → List V → R → Prop}

theorem RepD.other (h : RepD Γ X N ds σ a w G St own) {m : M} {own' : Nat → Prop} (hsz : w.heap.size ≤ w'.heap.size) (hown : ∀ k, ownM own a.defers k → w'.heap[k]? = w.heap[k]?) (hrd : ∀ b o, St b o → rdW w' b o = rdW w b o) (hI : X.I m (ownM own' a.defers) St' w')
    (ho : ∀ k, own k → own' k) (ho2 : ∀ k, own' k → own k ∨ (¬ ownM own a.defers k ∧ k < w'.heap.size ∧ X.B ≤ k)) (h1 : ∀ b o, St b o → St' b o) (hS2 : ∀ b o, St' b o → St b o ∨ (own' b ∧ ¬ own b)) (hS3 : ∀ b o, St' b o → b < w'.heap.size) :
    RepD Γ X N ds (σ.upd [(.y, m)]) a w' G St' own' := by
  have mb : ∀ t, (σ.upd [(.y, m)]).mem (.b t) = σ.mem (.b t) := fun t => by simp only [VS.upd, look, reduceCtorEq, if_false]
  have ma : ∀ t, (σ.upd [(.y, m)]).mem (.a t) = σ.mem (.a t) := fun t => by simp only [VS.upd, look, reduceCtorEq, if_false]
  have mf : ∀ t, (σ.upd [(.y, m)]).mem (.f t) = σ.mem (.f t) := fun t => by simp only [VS.upd, look, reduceCtorEq, if_false]
  have mc : ∀ t j, (σ.upd [(.y, m)]).mem (.c t j) = σ.mem (.c t j) := fun t j => by simp only [VS.upd, look, reduceCtorEq, if_false]
  have mv : ∀ t, (σ.upd [(.y, m)]).mem (.v t) = σ.mem (.v t) := fun t => by simp only [VS.upd, look, reduceCtorEq, if_false]
  have my : (σ.upd [(.y, m)]).mem .y = m := by simp only [VS.upd, look, if_true]
  generalize hσ : σ.upd [(.y, m)] = σ' at mb ma mf mc my mv
  have hget : σ'.get = σ.get := by rw [← hσ]; rfl
  have hrf : Refs σ.mem G σ'.mem G := ⟨fun t n hb => ⟨by rw [mb]; exact hb, rfl⟩, fun t g e es xs hb => ⟨g, e, es, xs, by rw [ma]; exact hb, .inr ⟨rfl, rfl, rfl, rfl⟩⟩⟩
  have hbk : ∀ t, blkOf σ'.mem G t = blkOf σ.mem G t := fun t => by unfold blkOf; rw [mb, ma]
  have hbl : ∀ t b, blkOf σ.mem G t = some b → w'.heap[b]? = w.heap[b]? := fun t b hb => hown b (.inl (h.ownb t b hb))
  have old : ∀ t b o, blkOf σ.mem G t = some b → St' b o → St b o := fun t b o hb hs => (hS2 b o hs).elim id fun k => (k.2 (h.ownb t b hb)).elim
  exact {
    size := h.size, dsq := h.dsq
    defs := ⟨h.defs.1, fun d hd => by
      obtain ⟨r, e, p, q, s, t⟩ := h.defs.2 d hd
      have hm : mkD a.defers r := by unfold mkD; rw [← e]; exact hd
      exact ⟨r, e, by rw [hown r (.inr hm)]; exact p, q, fun hr => (ho2 r hr).elim s fun k => k.1 (.inr hm), t⟩⟩
    inv := by rw [my]; exact hI
    st0 := fun b o hb => h1 b o (h.st0 b o hb)
    stn := fun b o hb => (hS2 b o hb).elim (fun hb => (h.stn b o hb).imp id (ho b)) fun hb => .inr hb.1
    stlt := hS3
    blt := Nat.le_trans h.blt hsz
    ownlt := fun b hb => (ho2 b hb).elim (fun hb => ⟨Nat.lt_of_lt_of_le (h.ownlt b hb).1 hsz, (h.ownlt b hb).2⟩) fun hb => hb.2
    glob := fun g cs hg => repA_mono h1 hrd cs g 0 (h.glob g cs hg)
    slots := fun t => by rw [hget]; exact repLv_mono hrf h1 hrd _ _ (h.slots t)
    virts := fun t l hb => by rw [mv] at hb; exact repLv_mono hrf h1 hrd _ _ (h.virts t l hb)
    boxes := fun t n hb => by
      rw [mb] at hb
      obtain ⟨cs, e, p, q, r⟩ := h.boxes t n hb
      refine ⟨cs, e, by rw [hbl t _ (h.blkB hb)]; exact p, q, fun j hj => ?_⟩
      obtain ⟨l, v, r1, r2, r3, r4⟩ := r j hj
      exact ⟨l, v, by rw [mc]; exact r1, r2, repLv_mono hrf h1 hrd _ _ r3, r4⟩
    arrs := fun t g e es xs hb => by
      rw [ma] at hb
      obtain ⟨h0, vs, p, q⟩ := h.arrs t g e es xs hb
      exact ⟨h0, vs, ownsRow_block p fun b hv => hbl t b (by rw [h.blkA hb]; exact hv), repEs_mono h1 hrd q⟩
    disj := fun t t' b hb hb' => h.disj t t' b (by rw [← hbk]; exact hb) (by rw [← hbk]; exact hb')
    both := fun t n g e es xs hb hb' => h.both t n g e es xs (by rw [← mb]; exact hb) (by rw [← ma]; exact hb')
    ownb := fun t b hb => ho b (h.ownb t b (by rw [← hbk]; exact hb))
    sbox := fun t n hb hf o hs => by
      rw [mb] at hb
      exact h.sbox t n hb (by rw [← mf]; exact hf) o (old t _ o (h.blkB hb) hs)
    sarr := fun t g e es xs b hb hv => by
      rw [ma] at hb
      obtain ⟨p, q⟩ := h.sarr t g e es xs b hb hv
      have hb' : blkOf σ.mem G t = some b := by rw [h.blkA hb]; exact hv
      exact ⟨fun hf o hs => p (by rw [← mf]; exact hf) o (old t b o hb' hs), fun o hl hs => q o hl (old t b o hb' hs)⟩ }

def Yields (P : Program) (X : Ctx) (Yp : Nat → Nat → List V → Prop) : Prop :=
  ∀ (l i : Nat) (vs : List V) (us : List Value) (own : Nat → Prop) (w : World) (St : Nat → Nat → Prop), Yp l i vs → repT St (rdW w) vs us → X.I (.cnt i) own St w → (∀ k, own k → k < w.heap.size ∧ X.B ≤ k) → (∀ b o, X.St0 b o → St b o) → (∀ b o, St b o → X.St0 b o ∨ own b) → (∀ b o, St b o → b < w.heap.size) →
    ∀ (ro : Option Nat) (n : Nat), YieldAt (fr ro) n P l us.toArray w fun e w' => ∃ b : Bool, e = .returned (.bool b) ∧ w.heap.size ≤ w'.heap.size ∧ (∀ k, own k → w'.heap[k]? = w.heap[k]?) ∧ (∀ b o, St b o → rdW w' b o = rdW w b o) ∧ X.I (if b then .cnt (i + 1) else .stop) own St w'

def noY : Nat → Nat → List V → Prop := fun _ _ _ => False
theorem yields_no : Yields P X noY := fun _ _ _ _ _ _ _ h => h.elim

def yOf (l : Nat) (ys : List (List V)) : Nat → Nat → List V → Prop := fun l' i vs => l' = l ∧ ys[i]? = some vs

def SpecI2 (P : Program) (Γ : Nat → Option (List V)) (f : FuncId) (first caps : List V) (ys : List (List V)) : Prop :=
  Enters P f ∧ ∀ (X : Ctx) (w : World) (fs us : List Value) (l : Nat), X.B ≤ w.heap.size → Yields P X (yOf l ys) → X.I (.cnt 0) (fun _ => False) X.St0 w → (∀ b o, X.St0 b o → b < w.heap.size) → (∀ g cs, Γ g = some cs → repA X.St0 (rdW w) cs g 0) → repT X.St0 (rdW w) first fs → repT X.St0 (rdW w) caps us →
    Calls P f (fs.toArray ++ #[.func (.yield l) #[] #[]] ++ us.toArray) w fun e w' => ∃ v own St, e = .returned v ∧ (X.I (.cnt ys.length) own St w' ∨ X.I .stop own St w')
def yresV (u b : Bool) : Value := if u then .tuple #[] else .bool b
def yresL (u b : Bool) : L := if u then .tup [] else .p (.b b)
def yresS (u b : Bool) : List L := if u then [] else [.p (.b b)]
def SpecYl (P : Program) (Γ : Nat → Option (List V)) (u : Bool) (l i : Nat) (f : FuncId) (args : List V) (zs : List (List V)) : Prop :=
  Enters P f ∧ ∀ (X : Ctx) (w : World) (us : List Value) (Yp : Nat → Nat → List V → Prop), X.B ≤ w.heap.size → Yields P X Yp → (∀ k z, zs[k]? = some z → Yp l (i + k) z) → X.I (.cnt i) (fun _ => False) X.St0 w → (∀ b o, X.St0 b o → b < w.heap.size) → (∀ g cs, Γ g = some cs → repA X.St0 (rdW w) cs g 0) → repT X.St0 (rdW w) args us →
    Calls P f us.toArray w fun e w' => ∃ (b : Bool) (own : Nat → Prop) (St : Nat → Nat → Prop), e = .returned (yresV u b) ∧ (∀ k, own k → k < w'.heap.size ∧ X.B ≤ k) ∧ (∀ b o, X.St0 b o → St b o) ∧ (∀ b o, St b o → X.St0 b o ∨ own b) ∧ (∀ b o, St b o → b < w'.heap.size) ∧ X.I (if b then .cnt (i + zs.length) else .stop) own St w'
def SpecY (P : Program) (Γ : Nat → Option (List V)) (u : Bool) (f : FuncId) (args : Nat → List V) (zs : List (List V)) : Prop := ∀ l i, SpecYl P Γ u l i f (args l) zs

theorem RepD.ctx (h : RepD Γ X N ds σ a w G St own) {X2 : Ctx} {own2 : Nat → Prop} {N2 : Nat} {ds2 : List Deferred} {a2 : Act} {σ2 : VS} (hm : ∀ k, (∀ t, k ≠ .v t) → σ2.mem k = σ.mem k) (hsz : a2.tmps.size = N2) (hds : Marks X2 a2.defers own2 w) (hdq : ds2 = [] → a2.defers = []) (hI : X2.I (σ.mem .y) (ownM own2 a2.defers) St w) (h0 : ∀ b o, X2.St0 b o → St b o) (hn : ∀ b o, St b o → X2.St0 b o ∨ own2 b) (hB : X2.B ≤ w.heap.size)
    (ho : ∀ b, own2 b → b < w.heap.size ∧ X2.B ≤ b) (hb : ∀ t b, blkOf σ.mem G t = some b → own2 b) (hsl : ∀ t, repLv σ.mem G St (rdW w) (σ2.get t) (a2.tmps.getD t undef)) (hv : ∀ t l, σ2.mem (.v t) = .cell l → repLv σ.mem G St (rdW w) l (X2.kv t)) :
    RepD Γ X2 N2 ds2 σ2 a2 w G St own2 := by
  have mb : ∀ t, σ2.mem (.b t) = σ.mem (.b t) := fun t => hm _ (by simp)
  have ma : ∀ t, σ2.mem (.a t) = σ.mem (.a t) := fun t => hm _ (by simp)
  have mf : ∀ t, σ2.mem (.f t) = σ.mem (.f t) := fun t => hm _ (by simp)
  have mc : ∀ t j, σ2.mem (.c t j) = σ.mem (.c t j) := fun t j => hm _ (by simp)
  have my : σ2.mem .y = σ.mem .y := hm _ (by simp)
  have hrf : Refs σ.mem G σ2.mem G := ⟨fun t n hb => ⟨by rw [mb]; exact hb, rfl⟩, fun t g e es xs hb => ⟨g, e, es, xs, by rw [ma]; exact hb, .inr ⟨rfl, rfl, rfl, rfl⟩⟩⟩
  have hs : ∀ b o, St b o → St b o := fun _ _ h => h
  have hrd : ∀ b o, St b o → rdW w b o = rdW w b o := fun _ _ _ => rfl
  have hbk : ∀ t, blkOf σ2.mem G t = blkOf σ.mem G t := fun t => by unfold blkOf; rw [mb, ma]
  exact {
    size := hsz, defs := hds, dsq := hdq, inv := by rw [my]; exact hI
    st0 := h0, stn := hn, stlt := h.stlt, blt := hB, ownlt := ho, glob := h.glob
    slots := fun t => repLv_mono hrf hs hrd _ _ (hsl t)
    virts := fun t l hb => repLv_mono hrf hs hrd _ _ (hv t l hb)
    boxes := fun t n hb => by
      rw [mb] at hb
      obtain ⟨cs, e, p, q, r⟩ := h.boxes t n hb
      refine ⟨cs, e, p, q, fun j hj => ?_⟩
      obtain ⟨l, v, r1, r2, r3, r4⟩ := r j hj
      exact ⟨l, v, by rw [mc]; exact r1, r2, repLv_mono hrf hs hrd _ _ r3, r4⟩
    arrs := fun t g e es xs hb => by rw [ma] at hb; exact h.arrs t g e es xs hb
    disj := fun t t' b hb hb' => h.disj t t' b (by rw [← hbk]; exact hb) (by rw [← hbk]; exact hb')
    both := fun t n g e es xs hb hb' => h.both t n g e es xs (by rw [← mb]; exact hb) (by rw [← ma]; exact hb')
    ownb := fun t b hb' => hb t b (by rw [← hbk]; exact hb')
    sbox := fun t n hb hf => h.sbox t n (by rw [← mb]; exact hb) (by rw [← mf]; exact hf)
    sarr := fun t g e es xs b hb hv => by
      obtain ⟨p, q⟩ := h.sarr t g e es xs b (by rw [← ma]; exact hb) hv
      exact ⟨fun hf => p (by rw [← mf]; exact hf), q⟩ }

def ctxR (X : Ctx) (kv : Nat → Value) (K0 : Nat → Prop) (D : List Deferred) (S0 : Nat → Nat → Prop) (low : Nat → Prop) (wb : World) : Ctx where
  I := fun m own2 S2 w' => X.I m (ownM (fun b => own2 b ∨ K0 b) D) S2 w' ∧ (∀ k, K0 k ∨ mkD D k → ¬ own2 k ∧ k < w'.heap.size ∧ w'.heap[k]? = wb.heap[k]?) ∧ (∀ k, low k → own2 k ∨ K0 k) ∧ (∀ b o, S0 b o → S2 b o ∧ rdW w' b o = rdW wb b o) ∧ wb.heap.size ≤ w'.heap.size
  St0 := S0
  B := X.B
  kv := kv
  step := by
    rintro m own2 S2 w S3 w' ⟨h1, h2, h3, h4, h5⟩ hs hr hS
    refine ⟨?_, fun k hk => ?_, fun k hk => (h3 k hk).imp .inl id, fun b o hb => ⟨hS b o (h4 b o hb).1, (hr b o (h4 b o hb).1).trans (h4 b o hb).2⟩, Nat.le_trans h5 hs.size⟩
    · have := X.step m _ S2 w S3 w' h1 (hs.mono fun b hb => .inl (.inl hb)) hr hS
      have e : (fun b => ownM (fun b => own2 b ∨ K0 b) D b ∨ (w.heap.size ≤ b ∧ b < w'.heap.size)) = ownM (fun b => (own2 b ∨ (w.heap.size ≤ b ∧ b < w'.heap.size)) ∨ K0 b) D := by
        funext b; apply propext; unfold ownM
        constructor
        · rintro (((h | h) | h) | h)
          · exact .inl (.inl (.inl h))
          · exact .inl (.inr h)
          · exact .inr h
          · exact .inl (.inl (.inr h))
        · rintro (((h | h) | h) | h)
          · exact .inl (.inl (.inl h))
          · exact .inr h
          · exact .inl (.inl (.inr h))
          · exact .inl (.inr h)
      rw [← e]; exact this
    · obtain ⟨p, q, r⟩ := h2 k hk
      refine ⟨fun h => ?_, Nat.lt_of_lt_of_le q hs.size, by rw [hs.block k q p]; exact r⟩
      rcases h with h | h
      · exact p h
      · omega

theorem yields_R {Yp : Nat → Nat → List V → Prop} (hY : Yields P X Yp) {kv : Nat → Value} {K0 low : Nat → Prop} {D : List Deferred} {S0 : Nat → Nat → Prop} {wb : World} (hB : ∀ k, K0 k ∨ mkD D k → X.B ≤ k) (hS : ∀ b o, X.St0 b o → S0 b o) (hS2 : ∀ b o, S0 b o → X.St0 b o ∨ K0 b) : Yields P (ctxR X kv K0 D S0 low wb) Yp := by
  rintro l i vs us own2 w S2 hy hus ⟨h1, h2, h3, h4, h5⟩ hown h0 hn hlt ro n
  have hk1 : ∀ k, ownM (fun b => own2 b ∨ K0 b) D k → k < w.heap.size ∧ X.B ≤ k := fun k hk => by
    rcases hk with (hk | hk) | hk
    · exact hown k hk
    · exact ⟨(h2 k (.inl hk)).2.1, hB k (.inl hk)⟩
    · exact ⟨(h2 k (.inr hk)).2.1, hB k (.inr hk)⟩
  have hk2 : ∀ b o, S2 b o → X.St0 b o ∨ ownM (fun b => own2 b ∨ K0 b) D b := fun b o hb => by
    rcases hn b o hb with hb | hb
    · exact (hS2 b o hb).imp id fun h => .inl (.inr h)
    · exact .inr (.inl (.inl hb))
  obtain ⟨fn, tmps, assign, body, hrun, hround⟩ := hY l i vs us (ownM (fun b => own2 b ∨ K0 b) D) w S2 hy hus h1 hk1 (fun b o hb => h0 b o (hS b o hb)) hk2 hlt ro n
  refine ⟨fn, tmps, assign, body, hrun, hround.mono ?_⟩
  rintro e w' ⟨b, rfl, k1, k2, k3, k4⟩
  refine ⟨b, rfl, k1, fun k hk => k2 k (.inl (.inl hk)), k3, k4, fun k hk => ?_, h3, fun b o hb => ⟨(h4 b o hb).1, (k3 b o (h4 b o hb).1).trans (h4 b o hb).2⟩, Nat.le_trans h5 k1⟩
  obtain ⟨p, q, r⟩ := h2 k hk
  exact ⟨p, Nat.lt_of_lt_of_le q k1, (k2 k (hk.elim (fun h => .inl (.inr h)) .inr)).trans r⟩

def vyl (P : Program) (Γ : Nat → Option (List V)) (Yp : Nat → Nat → List V → Prop) (o : Oper) (σ : VS) (K : VS → Prop) : Prop :=
  match o.op, o.guard with
  | .call ⟨.value f, args, _⟩, none => wantO (pubWith (pub1 σ) (args.toList.map (σ.ev Γ))) fun q =>
    match σ.ev Γ f with
    | .p (.yld l) => ∃ i, σ.mem .y = .cnt i ∧ Yp l i q.vs ∧ K (σ.apply o.dst ⟨.p (.b true), [], (.y, .cnt (i + 1)) :: frzs q.fz⟩) ∧ K (σ.apply o.dst ⟨.p (.b false), [], (.y, .stop) :: frzs q.fz⟩)
    | .p (.fn g first caps) => ∃ u l i zs, σ.mem .y = .cnt i ∧ SpecYl P Γ u l i g (first ++ q.vs ++ caps) zs ∧ (∀ k z, zs[k]? = some z → Yp l (i + k) z) ∧ K (σ.apply o.dst ⟨yresL u true, [], (.y, .cnt (i + zs.length)) :: frzs q.fz⟩) ∧ K (σ.apply o.dst ⟨yresL u false, [], (.y, .stop) :: frzs q.fz⟩)
    | _ => False
  | _, _ => False

theorem repT_app {rd : Nat → Nat → Option Value} : ∀ {x y : List V} {l m : List Value}, repT St rd x l → repT St rd y m → repT St rd (x ++ y) (l ++ m)
  | [], y, l, m, h, k => by simp only [repT] at h; subst h; exact k
  | c :: cs, y, l, m, h, k => by
    simp only [repT] at h
    obtain ⟨v, r, rfl, p, q⟩ := h
    simp only [List.cons_append, repT]
    exact ⟨v, r ++ m, rfl, p, repT_app q k⟩

theorem yield_sound {Yp : Nat → Nat → List V → Prop} (hY : Yields P X Yp) (h : Rp Γ X N ds σ a w) {o : Oper} (hd : ∀ d, o.dst = some d → d < N) {K : VS → Prop} (hk : vyl P Γ Yp o σ K) (ro : Option Nat) (n : Nat) (next : Act → World → Prop) (Q : Exit → Act → World → Prop)
    (hn : ∀ σ' a' w', K σ' → Rp Γ X N ds σ' a' w' → next a' w') : o.wpIn (fr ro) n P a w next Q := by
  obtain ⟨G, St, own, h⟩ := h
  unfold vyl at hk
  split at hk
  · rename_i f args ats ho hg
    obtain ⟨q, hq, hk⟩ := wantO_iff.1 hk
    have hargs := h.evs (Γ := Γ) args.toList
    have hF := h.frz q.fz
    have hT := h.pubs hq hargs (fz := q.fz) fun _ h => h
    have hfv := h.ev (Γ := Γ) f
    have hmy : (σ.upd (frzs q.fz)).mem .y = σ.mem .y := look_frzs (by simp)
    have hI := hF.inv
    have fin : ∀ (u b : Bool) (m : M) {St' own' w'}, RepD Γ X N ds ((σ.upd (frzs q.fz)).upd [(.y, m)]) a w' G St' own' → K (σ.apply o.dst ⟨yresL u b, [], (.y, m) :: frzs q.fz⟩) → next (a.put o.dst (yresV u b)) w' := by
      intro u b m St' own' w' hR hK
      refine hn _ _ _ hK ⟨G, St', own', hR.putO hd ?_⟩
      cases u with
      | true => exact (show repLv _ _ _ _ (.tup []) (.tuple #[]) by simp only [repLv, repLs]; exact ⟨#[], rfl, rfl⟩)
      | false => exact (show repLv _ _ _ _ (.p (.b b)) (.bool b) by simp only [repLv, rep]; exact ⟨by simp [repC, Value.cells], rfl⟩)
    split at hk
    · rename_i l hl
      obtain ⟨i, hi, hy, hK1, hK2⟩ := hk
      rw [hl] at hfv
      obtain ⟨p1, p2⟩ := pval hfv
      simp only [repC] at p1
      have efv := val_of_one p1 p2
      rw [hmy, hi] at hI
      obtain ⟨fn, tmps, assign, body, hrun, hround⟩ := hY l i q.vs (args.toList.map a.eval) (ownM own a.defers) w _ hy hT hI (fun k hk => hk.elim (h.ownlt k) fun hk => ⟨(h.defs.lt hk).1, (h.defs.lt hk).2.1⟩) hF.st0 (fun b o hb => (hF.stn b o hb).imp id .inl) hF.stlt ro (n - 1)
      refine ⟨fun _ _ => trivial, ?_⟩
      have hsem : (o.semAt ro a.eval).run P w = .ok (.round l fn tmps assign body) w := by
        rw [Oper.semAt_eq _ _ _ (by rw [ho]; simp)]
        obtain ⟨dst, op, ty, pos, af, gd⟩ := o
        simp only at ho
        subst ho
        simp only [execOp, resolve, efv, Deferred.ofValue, Sem.run_bind, Sem.run_pure, Result.andThen_ok, invoke]
        have hargs : (args.toList.map a.eval).toArray = args.map a.eval := by apply Array.toList_inj.1; simp
        rw [hargs] at hrun
        simpa using hrun
      show o.uponIn (fr ro) n P a next Q ((o.semAt ro a.eval).run P w)
      rw [hsem, Oper.uponIn_round]
      refine ⟨fun h => by simp [fr, Fence.wide] at h, hround.mono ?_⟩
      rintro e w' ⟨b, rfl, hsz, hown, hst, hI'⟩
      have hR := hF.other hsz hown hst hI' (fun _ h => h) (fun _ h => .inl h) (fun _ _ h => h) (fun _ _ h => .inl h) fun b o hb => Nat.lt_of_lt_of_le (hF.stlt b o hb) hsz
      cases b with
      | true => exact fin false true _ hR hK1
      | false => exact fin false false _ hR hK2
    · rename_i g first caps hf
      obtain ⟨u, l, i, zs, hi, ⟨hent, hspec⟩, hyz, hK1, hK2⟩ := hk
      rw [hf] at hfv
      obtain ⟨p1, p2⟩ := pval hfv
      simp only [repC] at p1
      obtain ⟨a1, a2, e1, t1, t2⟩ := p1
      have efv := val_of_one e1 p2
      have up : ∀ b o, St b o → stF σ G St q.fz b o := fun _ _ h => .inl h
      have same : ∀ b o, St b o → rdW w b o = rdW w b o := fun _ _ _ => rfl
      have hall := repT_app (repT_app (repT_mono up same _ _ t1) hT) (repT_mono up same _ _ t2)
      rw [hmy, hi] at hI
      have hmk := hF.defs
      have hYR : Yields P (ctxR X X.kv own a.defers (stF σ G St q.fz) own w) Yp := yields_R hY (fun k hk => hk.elim (fun hk => (hF.ownlt k hk).2) fun hk => (hmk.lt hk).2.1) hF.st0 hF.stn
      have hI2 : (ctxR X X.kv own a.defers (stF σ G St q.fz) own w).I (.cnt i) (fun _ => False) (stF σ G St q.fz) w := by
        refine ⟨?_, fun k hk => ⟨id, hk.elim (fun hk => (hF.ownlt k hk).1) fun hk => (hmk.lt hk).1, rfl⟩, fun k hk => .inr hk, fun _ _ h => ⟨h, rfl⟩, Nat.le_refl _⟩
        have e : (fun b => False ∨ own b) = own := by funext b; simp
        show X.I (.cnt i) (ownM (fun b => False ∨ own b) a.defers) _ w
        rw [e]; exact hI
      have hcall := hspec (ctxR X X.kv own a.defers (stF σ G St q.fz) own w) w _ Yp hF.blt hYR hyz hI2 hF.stlt hF.glob hall
      have harr : (a1.toList ++ args.toList.map a.eval ++ a2.toList).toArray = a1 ++ (args.map a.eval) ++ a2 := by
        apply Array.toList_inj.1; simp
      rw [harr] at hcall
      have hrun : (o.semAt ro a.eval).run P w = .ok (.enter g (a1 ++ (args.map a.eval) ++ a2)) w := by
        rw [Oper.semAt_eq _ _ _ (by rw [ho]; simp)]
        obtain ⟨dst, op, ty, pos, af, gd⟩ := o
        simp only at ho
        subst ho
        simp only [execOp, resolve, efv, Deferred.ofValue, Sem.run_bind, Sem.run_pure, Result.andThen_ok, invoke]
        exact hent _ _
      refine ⟨fun _ _ => trivial, ?_⟩
      show o.uponIn (fr ro) n P a next Q ((o.semAt ro a.eval).run P w)
      rw [hrun]
      refine ⟨fun h => by simp [fr, Fence.wide] at h, ?_⟩
      have hc : CallsIn Fence.wide (n - 1) P g (a1 ++ (args.map a.eval) ++ a2) w _ := callsIn_wide.2 hcall
      refine CallsIn.mono (F := fr ro) hc ?_
      rintro e w' ⟨b, own2, St2, rfl, m1, m2, m3, m4, m5, m6, m7, m8, m9⟩
      have e : (ownM (fun b => own2 b ∨ own b) a.defers) = ownM (fun b => own b ∨ own2 b) a.defers := by
        have : (fun b => own2 b ∨ own b) = fun b => own b ∨ own2 b := by funext b; rw [or_comm]
        rw [this]
      rw [e] at m5
      have hR := hF.other (own' := fun b => own b ∨ own2 b) m9 (fun k hk => (m6 k hk).2.2) (fun b o hb => (m8 b o hb).2) m5 (fun _ h => .inl h)
        (fun k hk => hk.elim .inl fun hk => .inr ⟨fun hk2 => (m6 k hk2).1 hk, (m1 k hk)⟩) m2 (fun b o hb => (m3 b o hb).imp id fun hb => ⟨.inr hb, fun ho => (m6 b (.inl ho)).1 hb⟩) m4
      cases b with
      | true => exact fin u true _ hR hK1
      | false => exact fin u false _ hR hK2
    · exact hk.elim
  · exact hk.elim
end Go.Vm

namespace Go.Vm
variable {Γ : Nat → Option (List V)} {X : Ctx} {N : Nat} {ds : List Deferred} {σ : VS} {a : Act} {w w' : World} {G G' : GG} {St St' : Nat → Nat → Prop} {own : Nat → Prop} {P : Program} {Sp : FuncId → List V → R → Prop} {ops : Array Oper}

def vyg (P : Program) (Γ : Nat → Option (List V)) (Yp : Nat → Nat → List V → Prop) (ops : Array Oper) (o : Oper) (σ : VS) (K : VS → Prop) : Prop :=
  match o.guard with
  | none => vyl P Γ Yp o σ K
  | some (j, want) => wantO (gdst ops j) fun d => vguard (σ.get d) want (vyl P Γ Yp { o with guard := none } σ K) (K (σ.apply o.dst noEff))
theorem vyg_none {Yp : Nat → Nat → List V → Prop} {o : Oper} {K : VS → Prop} (hg : o.guard = none) (h : vyl P Γ Yp o σ K) : vyg P Γ Yp ops o σ K := by
  unfold vyg; rw [hg]; exact h

def vyreg (P : Program) (Γ : Nat → Option (List V)) (Sp : FuncId → List V → R → Prop) (Yp : Nat → Nat → List V → Prop) (ops : Array Oper) (σ : VS) (K : VS → Prop) : Prop :=
  ∃ l1 o l2, ops.toList = l1 ++ o :: l2 ∧ vops P Γ Sp ops l1 σ fun σ1 => vyg P Γ Yp ops o σ1 fun σ2 => vops P Γ Sp ops l2 σ2 K

theorem list_app (hSp : ∀ f args r, Sp f args r → Spec P Γ f args r) {ro : Option Nat} {n : Nat} {Q : Exit → Act → World → Prop} {C : VS → Prop} {r : List Oper} : ∀ {l : List Oper} {σ : VS} {a : Act} {w : World}, Rp Γ X N ds σ a w → (∀ o ∈ l, ∀ d, o.dst = some d → d < N) → vops P Γ Sp ops l σ C →
    (∀ σ' a' w', C σ' → Rp Γ X N ds σ' a' w' → wpListIn (fr ro) n P ops Q r a' w') → wpListIn (fr ro) n P ops Q (l ++ r) a w
  | [], σ, a, w, h, _, hk, hQ => hQ _ _ _ hk h
  | o :: l, σ, a, w, h, hd, hk, hQ => by
    simp only [vops] at hk
    obtain ⟨e, hK, hs⟩ := step_sound (ops := ops) hSp h (hd o (by simp)) hk
    simp only [List.cons_append, wpListIn]
    exact hs ro n _ Q fun a' w' h' => list_app hSp h' (fun o ho => hd o (List.mem_cons_of_mem _ ho)) hK hQ

theorem vyl_guard {Yp : Nat → Nat → List V → Prop} {o : Oper} {K : VS → Prop} (h : vyl P Γ Yp o σ K) : o.guard = none := by
  unfold vyl at h
  split at h
  · assumption
  · exact h.elim

theorem guard_is (h : RepD Γ X N ds σ a w G St own) {o : Oper} {j : Nat} {want : Bool} {d : Tmp} (hg : o.guard = some (j, want)) (hdd : gdst ops j = some d) {A B : Prop} (h2 : vguard (σ.get d) want A B) : (A ∧ Region.wanted o (yielded ops a.tmps) = true) ∨ (B ∧ Region.wanted o (yielded ops a.tmps) = false) := by
  have hsl := h.slots d
  have hyd : yielded ops a.tmps j = match a.tmps[d]? with | some (.bool b) => some b | _ => none := by
    unfold yielded; unfold gdst at hdd; rw [hdd]; rfl
  unfold vguard at h2
  split at h2
  · rename_i x hx
    rw [hx] at hsl
    have hb := pbool hsl
    have hy : yielded ops a.tmps j = some x := by
      rw [hyd]
      cases ht : a.tmps[d]? with
      | none => simp [Array.getD_eq_getD_getElem?, ht, undef] at hb
      | some v =>
        simp [Array.getD_eq_getD_getElem?, ht] at hb
        subst hb; rfl
    by_cases hxw : x = want
    · exact .inl ⟨h2.1 hxw, by unfold Region.wanted; rw [hg]; simp [hy, hxw]⟩
    · exact .inr ⟨h2.2 hxw, by unfold Region.wanted; rw [hg]; simp [hy, hxw]⟩
  · rename_i hx
    rw [hx] at hsl
    simp only [repLv, repLs] at hsl
    obtain ⟨vs, h1, h3⟩ := hsl
    refine .inr ⟨h2, ?_⟩
    unfold Region.wanted
    rw [hg]
    simp only [hyd]
    cases ht : a.tmps[d]? with
    | none => rfl
    | some v =>
      simp [Array.getD_eq_getD_getElem?, ht] at h1
      subst h1; rfl
  · exact h2.elim

theorem yregion_sound (hSp : ∀ f args r, Sp f args r → Spec P Γ f args r) {Yp : Nat → Nat → List V → Prop} (hY : Yields P X Yp) {ro : Option Nat} {n id : Nat} {Q : Exit → Act → World → Prop} {C : VS → Prop} {l : List Oper} (h : Rp Γ X N ds σ a w) (hd : dstsB N l = true) (hk : vyreg P Γ Sp Yp l.toArray σ C)
    (hQ : ∀ σ' a' w', C σ' → Rp Γ X N ds σ' a' w' → Q .normal a' w') : (Code.region id l.toArray false).wpIn (fr ro) n P Q a w := by
  obtain ⟨l1, o, l2, hl, hk⟩ := hk
  have hl' : l = l1 ++ o :: l2 := hl
  refine wpIn_region_lit ?_
  have hds := dsts_spec hd
  have key : wpListIn (fr ro) n P l.toArray Q (l1 ++ o :: l2) a w := by
    refine list_app hSp h (fun x hx => hds x (by rw [hl']; simp [hx])) hk fun σ1 a1 w1 hk1 h1 => ?_
    have hdo : ∀ d, o.dst = some d → d < N := fun d hd' => hds o (by rw [hl']; simp) d hd'
    have rest : ∀ σ2 a2 w2, vops P Γ Sp l.toArray l2 σ2 C → Rp Γ X N ds σ2 a2 w2 → wpListIn (fr ro) n P l.toArray Q l2 a2 w2 := fun σ2 a2 w2 hk2 h2 => list_sound hSp h2 (fun x hx => hds x (by rw [hl']; simp [hx])) hk2 hQ
    simp only [wpListIn]
    unfold vyg at hk1
    split at hk1
    · rename_i hg
      rw [if_pos (by unfold Region.wanted; rw [hg])]
      exact yield_sound hY h1 hdo hk1 ro n _ Q rest
    · rename_i j want hg
      obtain ⟨d, hdd, h2⟩ := wantO_iff.1 hk1
      have h1c := h1
      obtain ⟨G, St, own, h1'⟩ := h1c
      rcases guard_is h1' hg hdd h2 with ⟨h3, hw⟩ | ⟨h3, hw⟩
      · rw [if_pos hw]
        exact yield_sound (o := { o with guard := none }) hY h1 hdo h3 ro n _ Q rest
      · rw [hw, if_neg (by simp)]
        exact ⟨fun _ _ => trivial, rest _ _ _ h3 ⟨G, St, own, h1'.putO hdo (l := .tup []) (v := undef) (by simp [repLv, repLs, undef])⟩⟩
  rw [← hl'] at key
  exact key
end Go.Vm

namespace Go.Vm
variable {Γ : Nat → Option (List V)} {X : Ctx} {N : Nat} {ds : List Deferred} {σ σ' : VS} {a : Act} {w w' : World} {P : Program} {Sp : FuncId → List V → R → Prop} {ops : Array Oper}

theorem VS.same {σ σ' : VS} (h1 : ∀ t, σ.get t = σ'.get t) (h2 : ∀ k, σ.mem k = σ'.mem k) : σ = σ' := by
  obtain ⟨g, m⟩ := σ
  obtain ⟨g', m'⟩ := σ'
  have e1 : g = g' := funext h1
  have e2 : m = m' := funext h2
  subst e1 e2; rfl

theorem look_frz {k : Key} {m : M} : ∀ {wr : List (Key × M)}, (∀ x ∈ wr, x.1 = k → x.2.isFrz = true) → (∃ x ∈ wr, x.1 = k) → look k m wr = .frz
  | [], _, h => by obtain ⟨x, hx, _⟩ := h; cases hx
  | (k', v) :: r, h, he => by
    simp only [look]
    split
    · rename_i e
      have := h (k', v) (by simp) e.symm
      cases v <;> simp [M.isFrz] at this ⊢
    · rename_i e
      refine look_frz (fun x hx => h x (List.mem_cons_of_mem _ hx)) ?_
      obtain ⟨x, hx, hxe⟩ := he
      rcases List.mem_cons.1 hx with rfl | hx
      · exact (e hxe.symm).elim
      · exact ⟨x, hx, hxe⟩

theorem kapart_spec {e e' : Eff} (h : kapart e.tr e'.tr = true) : (∀ x ∈ e.wr, x.1 ∉ e'.rd) ∧ (∀ x ∈ e'.wr, x.1 ∉ e.rd) ∧ ∀ x ∈ e.wr, ∀ y ∈ e'.wr, x.1 = y.1 → x.2.isFrz = true ∧ y.2.isFrz = true := by
  simp only [kapart, Eff.tr, Bool.and_eq_true, List.all_eq_true, List.mem_map, forall_exists_index, and_imp, Bool.or_eq_true, bne_iff_ne, ne_eq, Bool.not_eq_true', forall_apply_eq_imp_iff₂] at h
  obtain ⟨⟨h1, h2⟩, h3⟩ := h
  refine ⟨fun x hx hm => ?_, fun x hx hm => ?_, fun x hx y hy e => ?_⟩
  · have := h1 x hx; simp at this; exact this hm
  · have := h2 x hx; simp at this; exact this hm
  · rcases h3 x hx y hy with h | h
    · exact (h e).elim
    · exact h

def Apart2 (d d' : Option Nat) (e e' : Eff) : Prop := (∀ t, d = some t → d' ≠ some t) ∧ ∀ x ∈ e.wr, ∀ y ∈ e'.wr, x.1 = y.1 → x.2.isFrz = true ∧ y.2.isFrz = true
theorem apply_comm {d d' : Option Nat} {e e' : Eff} (h : Apart2 d d' e e') : (σ.apply d e).apply d' e' = (σ.apply d' e').apply d e := by
  refine VS.same (fun t => ?_) (fun k => ?_)
  · simp only [apply_get]
    by_cases h1 : d = some t
    · have := h.1 t h1; simp [h1, this]
    · simp [h1]
  · simp only [apply_mem]
    by_cases h1 : ∃ x ∈ e.wr, x.1 = k
    · by_cases h2 : ∃ y ∈ e'.wr, y.1 = k
      · obtain ⟨x, hx, hxk⟩ := h1
        obtain ⟨y, hy, hyk⟩ := h2
        rw [look_frz (wr := e'.wr) (fun z hz hzk => (h.2 x hx z hz (hxk.trans hzk.symm)).2) ⟨y, hy, hyk⟩, look_frz (wr := e.wr) (fun z hz hzk => (h.2 z hz y hy (hzk.trans hyk.symm)).1) ⟨x, hx, hxk⟩]
      · rw [look_not fun x hx e => h2 ⟨x, hx, e⟩, look_not (wr := e'.wr) fun x hx e => h2 ⟨x, hx, e⟩]
    · rw [look_not (wr := e.wr) fun x hx e => h1 ⟨x, hx, e⟩, look_not (wr := e.wr) fun x hx e => h1 ⟨x, hx, e⟩]

theorem runS_comm {d : Option Nat} {e : Eff} : ∀ {l : List Oper} {E : List Eff} {k : Nat} {S : Nat → Bool} {σ : VS}, (∀ i o' e', l[i]? = some o' → E[i]? = some e' → S (k + i) = true → Apart2 d o'.dst e e') → runS l E k S (σ.apply d e) = (runS l E k S σ).apply d e
  | [], E, k, S, σ, _ => by cases E <;> rfl
  | o :: r, [], k, S, σ, _ => rfl
  | o :: r, e' :: es, k, S, σ, h => by
    simp only [runS]
    have ih := fun σ => runS_comm (d := d) (e := e) (l := r) (E := es) (k := k + 1) (S := S) (σ := σ) fun i o' e' h1 h2 hs => h (i + 1) o' e' (by simpa using h1) (by simpa using h2) (by rw [show k + (i + 1) = k + 1 + i by omega]; exact hs)
    split
    · rename_i hs
      rw [apply_comm (h 0 o e' rfl rfl hs), ih]
    · exact ih _

theorem runS_add : ∀ {l : List Oper} {E : List Eff} {k : Nat} {S : Nat → Bool} {σ : VS} {j : Nat} {o : Oper} {e : Eff}, l[j]? = some o → E[j]? = some e → S (k + j) = false → (∀ i o' e', j < i → l[i]? = some o' → E[i]? = some e' → S (k + i) = true → Apart2 o.dst o'.dst e e') →
    runS l E k (fun m => if m = k + j then true else S m) σ = (runS l E k S σ).apply o.dst e
  | [], E, k, S, σ, j, o, e, h1, _, _, _ => by simp at h1
  | o :: r, [], k, S, σ, j, o1, e, _, h2, _, _ => by simp at h2
  | o1 :: r, e1 :: es, k, S, σ, 0, o, e, h1, h2, hs, h => by
    simp at h1 h2
    subst h1 h2
    simp only [runS]
    rw [if_pos (by simp), if_neg (by simpa using hs)]
    rw [← runS_comm fun i o' e' p q hS => h (i + 1) o' e' (by omega) (by simpa using p) (by simpa using q) (by rw [show k + (i + 1) = k + 1 + i by omega]; exact hS)]
    refine VS.same (fun t => runS_get rfl fun i o' hi hne => (hne ?_).elim) (fun κ => runS_mem rfl fun i e' hi hne => (hne ?_).elim)
    · rw [if_neg (by omega)]
    · rw [if_neg (by omega)]
  | o1 :: r, e1 :: es, k, S, σ, j + 1, o, e, h1, h2, hs, h => by
    have e0 : (fun m => if m = k + (j + 1) then true else S m) = fun m => if m = (k + 1) + j then true else S m := by funext m; rw [show k + (j + 1) = k + 1 + j by omega]
    have e1 : (if k = k + 1 + j then true else S k) = S k := if_neg (by omega)
    rw [e0]
    simp only [runS, e1]
    exact runS_add (by simpa using h1) (by simpa using h2) (by rw [show k + 1 + j = k + (j + 1) by omega]; exact hs) fun i o' e' hj p q hS => h (i + 1) o' e' (by omega) (by simpa using p) (by simpa using q) (by rw [show k + (i + 1) = k + 1 + i by omega]; exact hS)

theorem filter_lt {p p' : Nat → Bool} {i : Nat} : ∀ {l : List Nat}, (∀ x ∈ l, p' x = true → p x = true) → i ∈ l → p i = true → p' i = false → (l.filter p').length < (l.filter p).length
  | [], _, h, _, _ => by cases h
  | x :: r, hm, hi, h1, h2 => by
    have hle : (r.filter p').length ≤ (r.filter p).length := by
      rw [← List.countP_eq_length_filter, ← List.countP_eq_length_filter]
      exact List.countP_mono_left fun y hy => hm y (List.mem_cons_of_mem _ hy)
    rcases List.mem_cons.1 hi with rfl | hi
    · simp only [List.filter_cons, h1, h2, if_true, Bool.false_eq_true, if_false, List.length_cons]; omega
    · have ih := filter_lt (fun y hy => hm y (List.mem_cons_of_mem _ hy)) hi h1 h2
      have hx := hm x (by simp)
      simp only [List.filter_cons]
      split
      · rename_i hp; rw [if_pos (hx hp)]; simp; exact ih
      · split
        · simp; omega
        · exact ih

theorem getDset {l : Array Bool} {i j : Nat} {b : Bool} (hi : i < l.size) : (l.setIfInBounds i true).getD j b = if j = i then true else l.getD j b := by
  simp only [Array.getD_eq_getD_getElem?, Array.getElem?_setIfInBounds]
  by_cases h : i = j
  · subst h; simp [hi]
  · rw [if_neg h, if_neg (fun e => h e.symm)]

theorem drawn_sound (hSp : ∀ f args r, Sp f args r → Spec P Γ f args r) (hm : P.follows .mixedOrders = true) {ro : Option Nat} {n id : Nat} {Q : Exit → Act → World → Prop} {C : VS → Prop} (h : Rp Γ X N ds σ a w) (hd : dstsB N ops.toList = true) (hk : vopsD P Γ Sp ops ops.toList [] σ C)
    (hQ : ∀ σ' a' w', C σ' → Rp Γ X N ds σ' a' w' → Q .normal a' w') : (Code.region id ops true).wpIn (fr ro) n P Q a w := by
  obtain ⟨E, hT, hI, hC⟩ := vopsD_trace hk
  have hlen : ops.size = E.length := by have := hT.len; simpa using this
  simp only [List.reverse_nil, List.nil_append] at hI
  have hI : ∀ j oj ej, ops[j]? = some oj → E[j]? = some ej → (∀ e ∈ oj.after, Region.binds .any e = true → e.on < j) ∧ ∀ i oi ei, i < j → ops[i]? = some oi → E[i]? = some ei → (waitsOn oj i = true ∨ (oi.apart ops oj = true ∧ kapart ei.tr ej.tr = true)) ∨ waits2 ops oj i = true := by
    intro j oj ej hj hej
    have hjlt : j < ops.size := by
      rcases Nat.lt_or_ge j ops.size with h | h
      · exact h
      · rw [Array.getElem?_eq_none h] at hj; cases hj
    have h1 := List.all_eq_true.1 hI j (List.mem_range.2 hjlt)
    simp only [hj, List.getElem?_map, hej, Option.map_some, Bool.and_eq_true, List.all_eq_true, List.mem_range] at h1
    refine ⟨fun e he hb => ?_, fun i oi ei hi hoi hei => ?_⟩
    · have := Array.all_eq_true'.1 h1.1 e he
      simpa [hb] using this
    · have := h1.2 i hi
      simp only [hoi, hei, Option.map_some, Bool.or_eq_true, Bool.and_eq_true] at this
      exact this
  -- two operations of which neither waits for the other
  have hap : ∀ i j oi oj ei ej, i < j → ops[i]? = some oi → ops[j]? = some oj → E[i]? = some ei → E[j]? = some ej → (∀ e ∈ oj.after, Region.binds .any e = true → e.on ≠ i) → (∀ e ∈ oj.after, Region.binds .any e = true → ∀ o', ops[e.on]? = some o' → ∀ e' ∈ o'.after, Region.binds .any e' = true → e'.on ≠ i) → oi.apart ops oj = true ∧ kapart ei.tr ej.tr = true := by
    intro i j oi oj ei ej hij hi hj hei hej hw hw2
    rcases (hI j oj ej hj hej).2 i oi ei hij hi hei with (h | h) | h
    · exfalso
      unfold waitsOn at h
      obtain ⟨e, he, hb⟩ := Array.any_eq_true'.1 h
      simp only [Bool.and_eq_true, beq_iff_eq] at hb
      exact hw e he hb.1 hb.2
    · exact h
    · exfalso
      unfold waits2 at h
      obtain ⟨e, he, hb⟩ := Array.any_eq_true'.1 h
      simp only [Bool.and_eq_true] at hb
      obtain ⟨hb1, hb2⟩ := hb
      split at hb2
      · rename_i o' ho'
        unfold waitsOn at hb2
        obtain ⟨e', he', hb'⟩ := Array.any_eq_true'.1 hb2
        simp only [Bool.and_eq_true, beq_iff_eq] at hb'
        exact hw2 e he hb1 o' ho' e' he' hb'.1 hb'.2
      · cases hb2
  have main : ∀ (fuel : Nat) (listed : Array Bool) (a : Act) (w : World), listed.size = ops.size → (∀ j oj, ops[j]? = some oj → listed.getD j false = true → ∀ e ∈ oj.after, Region.binds .any e = true → listed.getD e.on false = true) →
      ((List.range ops.size).filter fun i => !listed.getD i true).length ≤ fuel → Rp Γ X N ds (runS ops.toList E 0 (fun i => listed.getD i false) σ) a w → wpAnyIn (fr ro) n P .any ops Q fuel listed a w := by
    intro fuel
    induction fuel with
    | zero =>
      intro listed a w hsz hcl hf hR
      have hall : ∀ i, i < ops.size → listed.getD i true = true := fun i hi => by
        have h0 := List.eq_nil_of_length_eq_zero (Nat.le_zero.1 hf)
        have := List.filter_eq_nil_iff.1 h0 i (List.mem_range.2 hi)
        simpa using this
      have hr : Region.ready .any ops listed = [] := by
        apply List.eq_nil_iff_forall_not_mem.2
        intro i hi
        obtain ⟨h1, o, ho, _⟩ := mem_ready.1 hi
        have hilt : i < ops.size := by
          rcases Nat.lt_or_ge i ops.size with h | h
          · exact h
          · rw [Array.getElem?_eq_none h] at ho; cases ho
        rw [hall i hilt] at h1; cases h1
      refine ⟨hr, ?_⟩
      refine hQ _ a w (hC 0) ?_
      have e0 : runS ops.toList E 0 (fun i => listed.getD i false) σ = runS ops.toList E 0 (fun _ => true) σ := by
        have hg : ∀ i, i < ops.size → listed.getD i false = true := fun i hi => by
          have := hall i hi
          rw [Array.getD_eq_getD_getElem?] at this ⊢
          have : i < listed.size := by omega
          simp_all
        refine VS.same (fun t => runS_get rfl fun i o' hi hne => (hne ?_).elim) (fun κ => runS_mem rfl fun i e' hi hne => (hne ?_).elim)
        · rw [Nat.zero_add]; exact hg i (by have := (List.getElem?_eq_some_iff.1 hi).1; simpa using this)
        · rw [Nat.zero_add]; exact hg i (by have := (List.getElem?_eq_some_iff.1 hi).1; omega)
      rw [← e0]; exact hR
    | succ fuel ih =>
      intro listed a w hsz hcl hf hR
      refine ⟨fun hr => ?_, fun i hi => ?_⟩
      · have hall : ∀ i, i < ops.size → listed.getD i false = true := fun i => by
          induction i using Nat.strongRecOn with
          | _ i ihi =>
            intro hi
            cases hc : listed.getD i true with
            | true => rw [Array.getD_eq_getD_getElem?] at hc ⊢; have : i < listed.size := by omega
                      simp_all
            | false =>
              exfalso
              have ho : ops[i]? = some ops[i] := by simp [hi]
              have hei : E[i]? = some (E[i]'(by omega)) := by simp
              have : i ∈ Region.ready .any ops listed := mem_ready.2 ⟨hc, _, ho, fun e he hb => ihi e.on ((hI i _ _ ho hei).1 e he hb) (by have := (hI i _ _ ho hei).1 e he hb; omega)⟩
              rw [hr] at this; cases this
        refine hQ _ a w (hC 0) ?_
        have e0 : runS ops.toList E 0 (fun i => listed.getD i false) σ = runS ops.toList E 0 (fun _ => true) σ := by
          refine VS.same (fun t => runS_get rfl fun i o' hi hne => (hne ?_).elim) (fun κ => runS_mem rfl fun i e' hi hne => (hne ?_).elim)
          · rw [Nat.zero_add]; exact hall i (by have := (List.getElem?_eq_some_iff.1 hi).1; simpa using this)
          · rw [Nat.zero_add]; exact hall i (by have := (List.getElem?_eq_some_iff.1 hi).1; omega)
        rw [← e0]; exact hR
      · obtain ⟨hun, o, ho, hwt⟩ := mem_ready.1 hi
        have hilt : i < ops.size := by
          rcases Nat.lt_or_ge i ops.size with h | h
          · exact h
          · rw [Array.getElem?_eq_none h] at ho; cases ho
        have hunf : listed.getD i false = false := by
          rw [Array.getD_eq_getD_getElem?] at hun ⊢
          have : i < listed.size := by omega
          simp_all
        obtain ⟨e, he⟩ : ∃ e, E[i]? = some e := ⟨E[i]'(by omega), by simp⟩
        have hoL : ops.toList[i]? = some o := by simpa using ho
        -- who stands before, and is not listed; who stands behind, and is
        have before : ∀ j oj ej, j < i → ops[j]? = some oj → E[j]? = some ej → listed.getD j false = false → oj.apart ops o = true ∧ kapart ej.tr e.tr = true := fun j oj ej hj hoj hej hl =>
          hap j i oj o ej e hj hoj ho hej he (fun e' he' hb heq => by
            have := hwt e' he' hb; rw [heq, hl] at this; cases this) fun e1 he1 hb1 o1 ho1 e2 he2 hb2 heq => by
            have := hcl e1.on o1 ho1 (hwt e1 he1 hb1) e2 he2 hb2; rw [heq, hl] at this; cases this
        have behind : ∀ j oj ej, i < j → ops[j]? = some oj → E[j]? = some ej → listed.getD j false = true → o.apart ops oj = true ∧ kapart e.tr ej.tr = true := fun j oj ej hj hoj hej hl =>
          hap i j o oj e ej hj ho hoj he hej (fun e' he' hb heq => by
            have := hcl j oj hoj hl e' he' hb; rw [heq, hunf] at this; cases this) fun e1 he1 hb1 o1 ho1 e2 he2 hb2 heq => by
            have := hcl e1.on o1 ho1 (hcl j oj hoj hl e1 he1 hb1) e2 he2 hb2; rw [heq, hunf] at this; cases this
        have hlt2 : ∀ {j : Nat} {oj : Oper}, ops.toList[j]? = some oj → ∃ ej, E[j]? = some ej := fun {j oj} hj => by
          have := (List.getElem?_eq_some_iff.1 hj).1
          simp only [Array.length_toList] at this
          exact ⟨E[j]'(by omega), by simp⟩
        have hlt3 : ∀ {j : Nat} {ej : Eff}, E[j]? = some ej → ∃ oj, ops[j]? = some oj := fun {j ej} hj => by
          have := (List.getElem?_eq_some_iff.1 hj).1
          exact ⟨ops[j]'(by omega), by simp⟩
        have hstep : vstep P Γ Sp ops (runS ops.toList E 0 (fun i => listed.getD i false) σ) o (fun e' => e' = e) := by
          refine Trace.at 0 hT i o e hoL he _ (fun t ht => ?_) (fun κ hκ => ?_) _ rfl
          · refine runS_get rfl fun j oj hj hne hdst => ?_
            obtain ⟨ej, hej⟩ := hlt2 hj
            have hj : ops[j]? = some oj := by simpa using hj
            simp only [Nat.zero_add] at hne
            by_cases hji : j < i
            · have hl : listed.getD j false = false := by cases hc : listed.getD j false <;> simp [hc, hji] at hne ⊢
              exact (Oper.apart_spec (before j oj ej hji hj hej hl).1).1 t hdst ht
            · have hl : listed.getD j false = true := by cases hc : listed.getD j false <;> simp [hc, hji] at hne ⊢
              have : i ≠ j := fun e0 => by subst e0; rw [hunf] at hl; cases hl
              exact (Oper.apart_spec (behind j oj ej (by omega) hj hej hl).1).2.2 t hdst ht
          · refine runS_mem rfl fun j ej hej hne x hx hxk => ?_
            obtain ⟨oj, hj⟩ := hlt3 hej
            simp only [Nat.zero_add] at hne
            by_cases hji : j < i
            · have hl : listed.getD j false = false := by cases hc : listed.getD j false <;> simp [hc, hji] at hne ⊢
              exact (kapart_spec (before j oj ej hji hj hej hl).2).1 x hx (hxk ▸ hκ)
            · have hl : listed.getD j false = true := by cases hc : listed.getD j false <;> simp [hc, hji] at hne ⊢
              have : i ≠ j := fun e0 => by subst e0; rw [hunf] at hl; cases hl
              exact (kapart_spec (behind j oj ej (by omega) hj hej hl).2).2.1 x hx (hxk ▸ hκ)
        obtain ⟨e', rfl, hs⟩ := step_sound (ops := ops) hSp hR (dsts_spec hd o (List.mem_of_getElem? hoL)) hstep
        unfold wpOpIn
        rw [ho]
        refine hs ro n _ Q fun a' w' hR' => ih (listed.setIfInBounds i true) a' w' (by simp [hsz]) ?_ ?_ ?_
        · intro j oj hj hl e1 he1 hb
          rw [getDset (by omega)] at hl ⊢
          split
          · rfl
          · split at hl
            · rename_i hji; subst hji; rw [ho] at hj; cases hj; exact hwt e1 he1 hb
            · exact hcl j oj hj hl e1 he1 hb
        · have := filter_lt (p := fun k => !listed.getD k true) (p' := fun k => !(listed.setIfInBounds i true).getD k true) (i := i) (l := List.range ops.size) (fun x _ hx => by
            rw [getDset (by omega)] at hx
            split at hx
            · cases hx
            · exact hx) (List.mem_range.2 hilt) (by simp only [hun]; rfl) (by rw [getDset (by omega)]; simp)
          omega
        · have e0 := runS_add (k := 0) (S := fun i => listed.getD i false) (σ := σ) hoL he (by simpa using hunf) fun j oj ej hj hoj hej hl => by
            have hb := behind j oj ej hj (by simpa using hoj) hej (by simpa using hl)
            exact ⟨(Oper.apart_spec hb.1).2.1, (kapart_spec hb.2).2.2⟩
          have e1 : (fun k => (listed.setIfInBounds i true).getD k false) = fun m => if m = 0 + i then true else listed.getD m false := by funext m; rw [getDset (by omega), Nat.zero_add]
          rw [e1, e0]; exact hR'
  refine wpIn_region_any hm (main ops.size (Array.replicate ops.size false) a _ (by simp) ?_ ?_ ?_)
  · intro j oj hj hl
    rw [Array.getD_eq_getD_getElem?] at hl
    by_cases hjl : j < ops.size <;> simp [hjl] at hl
  · refine Nat.le_trans (List.length_filter_le _ _) (by simp)
  · have e0 : runS ops.toList E 0 (fun i => (Array.replicate ops.size false).getD i false) σ = σ := by
      have hno : ∀ (l : List Oper) (E : List Eff) (k : Nat) (S : Nat → Bool) (σ : VS), (∀ i, S i = false) → runS l E k S σ = σ := by
        intro l
        induction l with
        | nil => intro E k S σ _; cases E <;> rfl
        | cons o r ih =>
          intro E k S σ hS
          cases E with
          | nil => rfl
          | cons e es => simp only [runS, hS k, Bool.false_eq_true, if_false]; exact ih _ _ _ _ hS
      refine hno _ _ _ _ _ fun i => ?_
      rw [Array.getD_eq_getD_getElem?]
      by_cases hjl : i < ops.size <;> simp [hjl]
    rw [e0]
    obtain ⟨G, St, own, hR⟩ := h
    exact ⟨G, St, _, hR.ext (Stp.drew _ _)⟩
end Go.Vm

namespace Go.Vm
variable {Γ : Nat → Option (List V)} {X : Ctx} {N : Nat} {ds : List Deferred} {σ τ : VS} {a : Act} {w w' : World} {G G' : GG} {St St' : Nat → Nat → Prop} {own : Nat → Prop} {P : Program} {Sp : FuncId → List V → R → Prop} {ops : Array Oper}

def wkL (m m0 : Key → M) : L → L → Prop
  | .dead, _ => True
  | .p v, l => l = .p v
  | .nilS, l => l = .nilS
  | .e0, l => l = .e0
  | .own t j, l => l = .own t j ∧ ∃ n, m (.b t) = .box n ∧ j < n
  | .arr t g, l => (∃ e es xs, m (.a t) = .arr g e es xs) ∧ ((∃ g0 e es xs, l = .arr t g0 ∧ m0 (.a t) = .arr g0 e es xs) ∨ (l = .nilS ∧ isNone (m0 (.a t)) = true))
  | .em b, l => l = .em b
  | .bsl t, l => l = .bsl t ∧ ∃ n, m (.b t) = .box n ∧ m0 (.b t) = .box n
  | _, _ => False

structure WkS (σ τ : VS) : Prop where
  gho : σ.mem .y = τ.mem .y
  virts : ∀ t l, τ.mem (.v t) = .cell l → ∃ l', σ.mem (.v t) = .cell l' ∧ wkL τ.mem σ.mem l l'
  slots : ∀ t, wkL τ.mem σ.mem (τ.get t) (σ.get t)
  boxes : ∀ t n, τ.mem (.b t) = .box n → σ.mem (.b t) = .box n ∧ isNone (τ.mem (.a t)) = true ∧ (isNone (τ.mem (.f t)) = true → isNone (σ.mem (.f t)) = true) ∧
    ∀ j, j < n → ∃ l l', τ.mem (.c t j) = .cell l ∧ σ.mem (.c t j) = .cell l' ∧ wkL τ.mem σ.mem l l'
  arrs : ∀ t g e es xs, τ.mem (.a t) = .arr g e es xs → (∃ g0, σ.mem (.a t) = .arr g0 e es xs ∧ (isNone (τ.mem (.f t)) = true → isNone (σ.mem (.f t)) = true)) ∨ (xs = [] ∧ 0 < es ∧ isNone (σ.mem (.a t)) = true)

theorem RepD.weaken (h : RepD Γ X N ds σ a w G St own) (hw : WkS σ τ) : ∃ G', RepD Γ X N ds τ a w G' St own := by
  let G' : GG := ⟨G.bk, fun t => if isNone (σ.mem (.a t)) = true then .slice none 0 0 else G.av t⟩
  have hav : ∀ t g e es xs, σ.mem (.a t) = .arr g e es xs → G'.av t = G.av t := fun t g e es xs hm => by simp [G', hm, isNone]
  have hav0 : ∀ t, isNone (σ.mem (.a t)) = true → G'.av t = .slice none 0 0 := fun t hm => by simp [G', hm]
  have hL : ∀ l l' v, wkL τ.mem σ.mem l l' → repLv σ.mem G St (rdW w) l' v → repLv τ.mem G' St (rdW w) l v := by
    intro l l' v hk hv
    cases l with
    | dead => simp only [repLv]
    | p x => simp only [wkL] at hk; subst hk; simpa only [repLv] using hv
    | nilS => simp only [wkL] at hk; subst hk; simpa only [repLv] using hv
    | e0 => simp only [wkL] at hk; subst hk; simpa only [repLv] using hv
    | own t j =>
      simp only [wkL] at hk
      obtain ⟨rfl, n, h1, h2⟩ := hk
      simp only [repLv] at hv ⊢
      exact ⟨hv.1, n, h1, h2⟩
    | arr t g =>
      simp only [wkL] at hk
      obtain ⟨⟨e, es, xs, h1⟩, h2⟩ := hk
      simp only [repLv]
      refine ⟨g, e, es, xs, h1, Nat.le_refl _, ?_⟩
      rcases h2 with ⟨g0, e', es', xs', rfl, h3⟩ | ⟨rfl, h3⟩
      · simp only [repLv] at hv
        obtain ⟨g1, _, _, _, h4, h5, h6, h7⟩ := hv
        rw [h3] at h4; cases h4
        exact ⟨h6, fun _ => by rw [hav t _ _ _ _ h3]; exact h7 rfl⟩
      · simp only [repLv] at hv
        subst hv
        exact ⟨by simp [Value.oneCell'], fun _ => (hav0 t h3).symm⟩
    | em b => simp only [wkL] at hk; subst hk; simpa only [repLv] using hv
    | bsl t =>
      simp only [wkL] at hk
      obtain ⟨rfl, n, h1, h2⟩ := hk
      simp only [repLv] at hv ⊢
      obtain ⟨n', h3, h4⟩ := hv
      rw [h2] at h3; cases h3
      exact ⟨n, h1, h4⟩
    | _ => simp [wkL] at hk
  have hblk : ∀ t b, blkOf τ.mem G' t = some b → blkOf σ.mem G t = some b := fun t b hb => by
    unfold blkOf at hb
    split at hb
    · rename_i n hm
      rw [h.blkB (hw.boxes t n hm).1]; exact hb
    · split at hb
      · rename_i g e es xs hm
        rcases hw.arrs t g e es xs hm with ⟨g0, h1, _⟩ | ⟨_, _, h1⟩
        · rw [hav t _ _ _ _ h1] at hb; rw [h.blkA h1]; exact hb
        · rw [hav0 t h1] at hb; cases hb
      · cases hb
  refine ⟨G', ?_⟩
  exact { h with
    inv := by rw [← hw.gho]; exact h.inv
    slots := fun t => hL _ _ _ (hw.slots t) (h.slots t)
    virts := fun t l hb => by
      obtain ⟨l', p, q⟩ := hw.virts t l hb
      exact hL _ _ _ q (h.virts t l' p)
    boxes := fun t n hm => by
      obtain ⟨h1, _, _, h2⟩ := hw.boxes t n hm
      obtain ⟨cs, e, p, q, r⟩ := h.boxes t n h1
      refine ⟨cs, e, p, q, fun j hj => ?_⟩
      obtain ⟨l, l', k1, k2, k3⟩ := h2 j hj
      obtain ⟨l2, v, r1, r2, r3, r4⟩ := r j hj
      rw [k2] at r1; cases r1
      exact ⟨l, v, k1, r2, hL _ _ _ k3 r3, r4⟩
    arrs := fun t g e es xs hm => by
      rcases hw.arrs t g e es xs hm with ⟨g0, h1, _⟩ | ⟨rfl, h0, h1⟩
      · rw [hav t _ _ _ _ h1]; exact h.arrs t g0 e es xs h1
      · rw [hav0 t h1]
        exact ⟨h0, [], ⟨by simp, .inl ⟨rfl, rfl⟩⟩, by simp, fun i x hi => by simp at hi⟩
    disj := fun t t' b h1 h2 => h.disj t t' b (hblk t b h1) (hblk t' b h2)
    both := fun t n g e es xs h1 h2 => by have := (hw.boxes t n h1).2.1; rw [h2] at this; simp [isNone] at this
    ownb := fun t b hb => h.ownb t b (hblk t b hb)
    sbox := fun t n hm hf => h.sbox t n (hw.boxes t n hm).1 ((hw.boxes t n hm).2.2.1 hf)
    sarr := fun t g e es xs b hm hb => by
      rcases hw.arrs t g e es xs hm with ⟨g0, h1, hf⟩ | ⟨_, _, h1⟩
      · rw [hav t _ _ _ _ h1] at hb
        have := h.sarr t g0 e es xs b h1 hb
        exact ⟨fun hn => this.1 (hf hn), this.2⟩
      · rw [hav0 t h1] at hb; cases hb }
theorem Rp.weaken (h : Rp Γ X N ds σ a w) (hw : WkS σ τ) : Rp Γ X N ds τ a w := by
  obtain ⟨G, St, own, h⟩ := h
  obtain ⟨G', h'⟩ := h.weaken hw
  exact ⟨G', St, own, h'⟩

def AsV (σ σ' : VS) : Prop := σ' = σ ∨ ∃ s t g e es xs, σ.get s = .arr t g ∧ σ.mem (.a t) = .arr g e es xs ∧ σ.mem (.f t) = .frz ∧ σ' = ⟨fun x => if x = s then .p (.sl xs) else σ.get x, σ.mem⟩
theorem frz_same {t : Nat} (h : σ.mem (.f t) = .frz) : σ.upd (frzs [t]) = σ := by
  obtain ⟨gt, mm⟩ := σ
  have h : mm (.f t) = .frz := h
  refine VS.same (fun _ => rfl) fun k => ?_
  by_cases hk : k = .f t
  · subst hk
    rw [show (VS.upd ⟨gt, mm⟩ (frzs [t])).mem (.f t) = look (.f t) (mm (.f t)) (frzs [t]) from rfl, look_frzs_f, if_pos (by simp)]
    exact h.symm
  · show look k (mm k) (frzs [t]) = mm k
    simp [frzs, look, hk]
theorem RepD.asv (h : RepD Γ X N ds σ a w G St own) (hv : AsV σ τ) : ∃ St', RepD Γ X N ds τ a w G St' own := by
  rcases hv with rfl | ⟨s, t, g, e, es, xs, h1, h2, h3, rfl⟩
  · exact ⟨St, h⟩
  · have hf := h.frz [t]
    rw [frz_same h3] at hf
    refine ⟨_, { hf with slots := fun x => ?_ }⟩
    show repLv σ.mem G (stF σ G St [t]) (rdW w) (if x = s then .p (.sl xs) else σ.get x) _
    by_cases e : x = s
    · subst e
      rw [if_pos rfl]
      have hx := hf.slots x
      rw [h1] at hx
      simp only [repLv] at hx ⊢
      obtain ⟨g', _, _, _, q1, _, _, q2⟩ := hx
      rw [h2] at q1; cases q1
      rw [q2 rfl]
      exact h.pubArr h2 (by simp)
    · rw [if_neg e]; exact hf.slots x
def vsay (K : VS → Prop) (σ : VS) : Prop := K σ ∨ ∃ τ, (∃ σ', AsV σ σ' ∧ WkS σ' τ) ∧ K τ
theorem Rp.weakenA (h : Rp Γ X N ds σ a w) (hw : ∃ σ', AsV σ σ' ∧ WkS σ' τ) : Rp Γ X N ds τ a w := by
  obtain ⟨σ', h1, h2⟩ := hw
  obtain ⟨G, St, own, h⟩ := h
  obtain ⟨St', h'⟩ := h.asv h1
  exact Rp.weaken ⟨G, St', own, h'⟩ h2
def lookG (t : Nat) : List (Nat × L) → L
  | [] => .dead
  | (t', l) :: r => if t = t' then l else lookG t r
def VS.of (gs : List (Nat × L)) (ms : List (Key × M)) : VS := ⟨fun t => lookG t gs, fun k => look k .none ms⟩

def wkC (ms : List (Key × M)) (σ : VS) (t : Nat) : Nat → Nat → Prop
  | _, 0 => True
  | j, n + 1 => (match look (.c t j) .none ms, σ.mem (.c t j) with | .cell l, .cell l' => wkL (fun k => look k .none ms) σ.mem l l' | _, _ => False) ∧ wkC ms σ t (j + 1) n
def wkM (ms : List (Key × M)) (σ : VS) : Key → M → Prop
  | .b t, .box n => σ.mem (.b t) = .box n ∧ isNone (look (.a t) .none ms) = true ∧ (isNone (look (.f t) .none ms) = true → isNone (σ.mem (.f t)) = true) ∧ wkC ms σ t 0 n
  | .a t, .arr _ e es xs => (match σ.mem (.a t) with | .arr _ e' es' xs' => e' = e ∧ es' = es ∧ xs' = xs ∧ (isNone (look (.f t) .none ms) = true → isNone (σ.mem (.f t)) = true) | .none => xs = [] ∧ 0 < es | _ => False)
  | .v t, .cell l => (match σ.mem (.v t) with | .cell l' => wkL (fun k => look k .none ms) σ.mem l l' | _ => False)
  | .b _, _ => False
  | .a _, _ => False
  | _, _ => True
def wkGs (ms : List (Key × M)) (σ : VS) : List (Nat × L) → Prop
  | [] => True
  | (t, l) :: r => wkL (fun k => look k .none ms) σ.mem l (σ.get t) ∧ wkGs ms σ r
def wkMs (ms : List (Key × M)) (σ : VS) : List (Key × M) → Prop
  | [] => True
  | (k, m) :: r => wkM ms σ k m ∧ wkMs ms σ r
def Wk (σ : VS) (gs : List (Nat × L)) (ms : List (Key × M)) : Prop := wkGs ms σ gs ∧ wkMs ms σ ms ∧ σ.mem .y = look .y .none ms

theorem wkC_spec {ms : List (Key × M)} {t : Nat} : ∀ {n j0 : Nat}, wkC ms σ t j0 n → ∀ j, j0 ≤ j → j < j0 + n → ∃ l l', look (.c t j) .none ms = .cell l ∧ σ.mem (.c t j) = .cell l' ∧ wkL (fun k => look k .none ms) σ.mem l l'
  | 0, j0, _, j, h1, h2 => by omega
  | n + 1, j0, h, j, h1, h2 => by
    simp only [wkC] at h
    by_cases hj : j = j0
    · subst hj
      have h := h.1
      split at h
      · rename_i l l' e1 e2; exact ⟨l, l', e1, e2, h⟩
      · exact h.elim
    · exact wkC_spec h.2 j (by omega) (by omega)
theorem look_mem {k : Key} : ∀ {ms : List (Key × M)}, look k .none ms = .none ∨ (k, look k .none ms) ∈ ms
  | [] => .inl rfl
  | (k', m) :: r => by
    simp only [look]
    split
    · rename_i e; subst e; exact .inr (by simp)
    · rcases look_mem (k := k) (ms := r) with h | h
      · exact .inl h
      · exact .inr (List.mem_cons_of_mem _ h)
theorem lookG_mem {t : Nat} : ∀ {gs : List (Nat × L)}, lookG t gs = .dead ∨ (t, lookG t gs) ∈ gs
  | [] => .inl rfl
  | (t', l) :: r => by
    simp only [lookG]
    split
    · rename_i e; subst e; exact .inr (by simp)
    · rcases lookG_mem (t := t) (gs := r) with h | h
      · exact .inl h
      · exact .inr (List.mem_cons_of_mem _ h)
theorem wkGs_mem {ms : List (Key × M)} : ∀ {gs : List (Nat × L)}, wkGs ms σ gs → ∀ x ∈ gs, wkL (fun k => look k .none ms) σ.mem x.2 (σ.get x.1)
  | [], _, x, hx => by cases hx
  | y :: r, h, x, hx => by
    simp only [wkGs] at h
    rcases List.mem_cons.1 hx with rfl | hx
    · exact h.1
    · exact wkGs_mem h.2 x hx
theorem wkMs_mem {ms : List (Key × M)} : ∀ {r : List (Key × M)}, wkMs ms σ r → ∀ x ∈ r, wkM ms σ x.1 x.2
  | [], _, x, hx => by cases hx
  | y :: r, h, x, hx => by
    simp only [wkMs] at h
    rcases List.mem_cons.1 hx with rfl | hx
    · exact h.1
    · exact wkMs_mem h.2 x hx

theorem Wk.s {gs : List (Nat × L)} {ms : List (Key × M)} (h : Wk σ gs ms) : WkS σ (VS.of gs ms) := by
  have hM : ∀ k, look k .none ms = .none ∨ wkM ms σ k (look k .none ms) := fun k => by
    rcases look_mem (k := k) (ms := ms) with h1 | h1
    · exact .inl h1
    · exact .inr (wkMs_mem h.2.1 _ h1)
  refine ⟨h.2.2, fun t l hm => ?_, fun t => ?_, fun t n hm => ?_, fun t g e es xs hm => ?_⟩
  · have hm' : look (.v t) .none ms = .cell l := hm
    have := hM (.v t)
    rw [hm'] at this
    rcases this with h1 | h1
    · cases h1
    · simp only [wkM] at h1
      split at h1
      · rename_i l' e; exact ⟨l', e, h1⟩
      · exact h1.elim
  · show wkL _ _ (lookG t gs) _
    rcases lookG_mem (t := t) (gs := gs) with h1 | h1
    · rw [h1]; simp only [wkL]
    · exact wkGs_mem h.1 _ h1
  · have hm' : look (.b t) .none ms = .box n := hm
    have := hM (.b t)
    rw [hm'] at this
    rcases this with h1 | h1
    · cases h1
    · simp only [wkM] at h1
      exact ⟨h1.1, h1.2.1, h1.2.2.1, fun j hj => wkC_spec h1.2.2.2 j (Nat.zero_le _) (by omega)⟩
  · have hm' : look (.a t) .none ms = .arr g e es xs := hm
    have := hM (.a t)
    rw [hm'] at this
    rcases this with h1 | h1
    · cases h1
    · simp only [wkM] at h1
      split at h1
      · rename_i g0 e' es' xs' e0
        obtain ⟨rfl, rfl, rfl, hf⟩ := h1
        exact .inl ⟨g0, e0, hf⟩
      · rename_i e0; exact .inr ⟨h1.1, h1.2, by rw [e0]; rfl⟩
      · exact h1.elim

end Go.Vm

namespace Go.Vm
variable {Γ : Nat → Option (List V)} {X : Ctx} {N : Nat} {ds : List Deferred} {σ τ : VS} {a : Act} {w w' : World} {G G' : GG} {St St' : Nat → Nat → Prop} {own it : Nat → Prop} {P : Program} {Sp : FuncId → List V → R → Prop}

def vslot : M → L
  | .cell l => l
  | _ => .dead
def VS.keep (σ : VS) : VS := ⟨fun _ => .dead, fun k => match k with | .v t => .cell (σ.get t) | k => σ.mem k⟩
def VS.shut (σ : VS) : VS := ⟨fun _ => .dead, σ.mem⟩
def VS.opn (σ : VS) : VS := ⟨fun t => vslot (σ.mem (.v t)), σ.mem⟩
def VS.back (σ : VS) : VS := ⟨fun t => vslot (σ.mem (.v t)), fun k => match k with | .v _ => .none | k => σ.mem k⟩
def VS.puts : List (Nat × V) → VS → VS
  | [], σ => σ
  | (t, v) :: r, σ => VS.puts r (σ.put t (.p v))

theorem RepD.turn (h : RepD Γ X N ds σ a w G St own) (hs : Stp it w w') (hit : ∀ k, it k → own k) (h1 : ∀ t b, blkOf σ.mem G t = some b → ¬ it b) (hrd : ∀ b o, St b o → rdW w' b o = rdW w b o) : RepD Γ X N ds σ a w' G St (newOwn own w w') := by
  have hbl : ∀ t b, blkOf σ.mem G t = some b → w'.heap[b]? = w.heap[b]? := fun t b hb => hs.block b (h.blk_lt hb) (h1 t b hb)
  have hrf := Refs.refl σ.mem G
  have hid : ∀ b o, St b o → St b o := fun _ _ h => h
  exact {
    size := h.size, defs := h.defs.step hs hit, dsq := h.dsq
    inv := h.inv_step (hs.mono hit) hrd
    st0 := h.st0, stn := fun b o hb => (h.stn b o hb).imp id fun h => .inl h
    stlt := fun b o hb => Nat.lt_of_lt_of_le (h.stlt b o hb) hs.size
    blt := Nat.le_trans h.blt hs.size
    ownlt := fun b hb => by
      rcases hb with hb | ⟨p, q⟩
      · exact ⟨Nat.lt_of_lt_of_le (h.ownlt b hb).1 hs.size, (h.ownlt b hb).2⟩
      · exact ⟨q, Nat.le_trans h.blt p⟩
    glob := fun g cs hg => repA_mono hid hrd cs g 0 (h.glob g cs hg)
    slots := fun t => repLv_mono hrf hid hrd _ _ (h.slots t)
    virts := fun t l hb => repLv_mono hrf hid hrd _ _ (h.virts t l hb)
    boxes := fun t n hb => by
      obtain ⟨cs, e, p, q, r⟩ := h.boxes t n hb
      refine ⟨cs, e, by rw [hbl t _ (h.blkB hb)]; exact p, q, fun j hj => ?_⟩
      obtain ⟨l, v, r1, r2, r3, r4⟩ := r j hj
      exact ⟨l, v, r1, r2, repLv_mono hrf hid hrd _ _ r3, r4⟩
    arrs := fun t g e es xs hb => by
      obtain ⟨h0, vs, p, q⟩ := h.arrs t g e es xs hb
      exact ⟨h0, vs, ownsRow_block p fun b hv => hbl t b (by rw [h.blkA hb]; exact hv), repEs_mono hid hrd q⟩
    disj := h.disj, both := h.both
    ownb := fun t b hb => .inl (h.ownb t b hb)
    sbox := h.sbox, sarr := h.sarr }

theorem rd_put {l b o : Nat} {r r' : Loop} (h : w.heap[l]? = some (.loop r)) : rdW (w.putObj l (.loop r')) b o = rdW w b o := by
  by_cases e : b = l
  · subst e
    unfold rdW World.cell?
    rw [World.putObj_heap_same (Array.getElem?_eq_some_iff.1 h).1, h]
  · exact rdW_of_block (World.putObj_heap_other e)
theorem RepD.turnL (h : RepD Γ X N ds σ a w G St own) {l : Nat} {o : Obj} (ho : own l) (h1 : ∀ t, blkOf σ.mem G t ≠ some l) (h2 : ∀ o, ¬ St l o) : RepD Γ X N ds σ a (w.putObj l o) G St own := by
  have hs : Stp (fun k => k = l) w (w.putObj l o) := ⟨rfl, rfl, rfl, by simp, fun k _ hk => World.putObj_heap_other hk⟩
  have := h.turn hs (fun k hk => hk ▸ ho) (fun t b hb e => h1 t (e ▸ hb)) fun b o hb => rdW_of_block (World.putObj_heap_other fun e => h2 o (e ▸ hb))
  have e : newOwn own w (w.putObj l o) = own := by
    funext b; apply propext; unfold newOwn
    simp only [World.putObj_size]
    exact ⟨fun h => h.elim id fun h => by omega, .inl⟩
  rw [e] at this
  exact this

def Ctx.wkv (X : Ctx) (kv : Nat → Value) : Ctx := { X with kv := kv }

theorem RepD.intoR (h : RepD Γ X N ds σ a w G St own) {kv : Nat → Value} {K0 : Nat → Prop} (hK : ∀ k, K0 k → own k) (hb : ∀ k, K0 k → ∀ t, blkOf σ.mem G t ≠ some k) (hv : ∀ t l, σ.mem (.v t) = .cell l → repLv σ.mem G St (rdW w) l (kv t)) :
    RepD Γ (ctxR X kv K0 a.defers St own w) N [] σ { a with defers := [] } w G St (fun b => own b ∧ ¬ K0 b) := by
  refine h.ctx (fun _ _ => rfl) h.size (Marks.nil _ _ _) (fun _ => rfl) ⟨?_, fun k hk => ⟨?_, ?_, rfl⟩, fun k hk => ?_, fun _ _ h => ⟨h, rfl⟩, Nat.le_refl _⟩ (fun _ _ h => h) (fun _ _ h => .inl h) h.blt (fun b hb => h.ownlt b hb.1) (fun t b hb' => ⟨h.ownb t b hb', fun hk => hb b hk t hb'⟩) h.slots hv
  · have e : ownM (fun b => ownM (fun b => own b ∧ ¬ K0 b) [] b ∨ K0 b) a.defers = ownM own a.defers := by
      funext b; apply propext; unfold ownM mkD
      constructor
      · rintro (((h | h) | h) | h)
        · exact .inl h.1
        · cases h
        · exact .inl (hK b h)
        · exact .inr h
      · rintro (h | h)
        · by_cases hk : K0 b
          · exact .inl (.inr hk)
          · exact .inl (.inl (.inl ⟨h, hk⟩))
        · exact .inr h
    show X.I (σ.mem .y) (ownM (fun b => ownM (fun b => own b ∧ ¬ K0 b) [] b ∨ K0 b) a.defers) St w
    rw [e]; exact h.inv
  · rintro (p | p)
    · rcases hk with hk | hk
      · exact p.2 hk
      · exact (h.defs.lt hk).2.2 p.1
    · cases p
  · rcases hk with hk | hk
    · exact (h.ownlt k (hK k hk)).1
    · exact (h.defs.lt hk).1
  · by_cases hk' : K0 k
    · exact .inr hk'
    · exact .inl (.inl ⟨hk, hk'⟩)

theorem RepD.outR {ds' : List Deferred} (hds : ds' ≠ []) {kv : Nat → Value} {K0 low : Nat → Prop} {D : List Deferred} {S0 : Nat → Nat → Prop} {wb : World} (h : RepD Γ (ctxR X kv K0 D S0 low wb) N ds σ a w G St own) (hS : ∀ b o, X.St0 b o → S0 b o) (hm : Marks X D low wb) (hK : ∀ k, K0 k → low k ∧ X.B ≤ k) (hn : ∀ b o, S0 b o → X.St0 b o ∨ low b) :
    ∃ own', RepD Γ (X.wkv kv) N ds' σ { a with defers := D } w G St own' ∧ (∀ k, K0 k → own' k ∧ (∀ t, blkOf σ.mem G t ≠ some k) ∧ ∀ o, St k o → S0 k o) := by
  obtain ⟨h1, h2, h3, h4, h5⟩ := h.inv
  refine ⟨fun b => ownM own a.defers b ∨ K0 b, h.ctx (fun _ _ => rfl) h.size ⟨hm.1, fun d hd => ?_⟩ (fun h => (hds h).elim) h1 (fun b o hb => h.st0 b o (hS b o hb)) (fun b o hb => ?_) h.blt (fun b hb => ?_) (fun t b hb => .inl (.inl (h.ownb t b hb))) h.slots h.virts, fun k hk => ⟨.inr hk, fun t ht => (h2 k (.inl hk)).1 (.inl (h.ownb t k ht)), fun o ho => ?_⟩⟩
  · obtain ⟨r, e, p, q, s, t⟩ := hm.2 d hd
    obtain ⟨k1, k2, k3⟩ := h2 r (.inr (by unfold mkD; rw [← e]; exact hd))
    refine ⟨r, e, by rw [k3]; exact p, q, fun h => ?_, t⟩
    rcases h with h | h
    · exact k1 h
    · exact s (hK r h).1
  · rcases h.stn b o hb with hb | hb
    · rcases hn b o hb with hb | hb
      · exact .inl hb
      · exact .inr (by rcases h3 b hb with hb | hb
                       · exact .inl hb
                       · exact .inr hb)
    · exact .inr (.inl (.inl hb))
  · rcases hb with (hb | hb) | hb
    · exact h.ownlt b hb
    · exact ⟨(h.defs.lt hb).1, (h.defs.lt hb).2.1⟩
    · exact ⟨(h2 b (.inl hb)).2.1, (hK b hb).2⟩
  · rcases h.stn k o ho with ho | ho
    · exact ho
    · exact ((h2 k (.inl hk)).1 (.inl ho)).elim
end Go.Vm

namespace Go.Vm
variable {Γ : Nat → Option (List V)} {X : Ctx} {N : Nat} {ds : List Deferred} {σ τ : VS} {a : Act} {w w' : World} {G G' : GG} {St St' : Nat → Nat → Prop} {own it : Nat → Prop} {P : Program} {Sp : FuncId → List V → R → Prop}

theorem repT_at {rd : Nat → Nat → Option Value} : ∀ {xs : List V} {vs : List Value}, repT St rd xs vs → xs.length = vs.length ∧ ∀ (i : Nat) (x : V) (v : Value), xs[i]? = some x → vs[i]? = some v → rep St rd x v
  | [], vs, h => by simp only [repT] at h; subst h; simp
  | x :: xs, vs, h => by
    simp only [repT] at h
    obtain ⟨v, r, rfl, p, q⟩ := h
    obtain ⟨h1, h2⟩ := repT_at q
    refine ⟨by simp [h1], fun i x' v' hx hv => ?_⟩
    cases i with
    | zero => simp at hx hv; subst hx hv; exact p
    | succ i => exact h2 i x' v' (by simpa using hx) (by simpa using hv)
theorem RepD.shut (h : RepD Γ X N ds σ a w G St own) : RepD Γ X N ds σ.shut a w G St own :=
  { h with slots := fun t => by simp only [VS.shut, repLv] }
theorem RepD.opn (h : RepD Γ X N ds σ a w G St own) (hk : ∀ t, X.kv t = a.tmps.getD t undef) : RepD Γ X N ds σ.opn a w G St own := by
  have hs : ∀ t, repLv σ.mem G St (rdW w) (vslot (σ.mem (.v t))) (a.tmps.getD t undef) := fun t => by
    cases hm : σ.mem (.v t) with
    | cell l => rw [← hk]; exact h.virts t l hm
    | _ => simp only [vslot, repLv]
  exact { h with slots := hs }
theorem RepD.keepS (h : RepD Γ X N ds σ a w G St own) : RepD Γ (X.wkv fun t => a.tmps.getD t undef) N ds σ.keep a w G St own := by
  refine h.ctx (fun k hk => ?_) h.size h.defs h.dsq h.inv h.st0 h.stn h.blt h.ownlt h.ownb (fun t => by simp only [VS.keep, repLv]) fun t l hb => ?_
  · cases k with
    | v t => exact (hk t rfl).elim
    | _ => rfl
  · simp only [VS.keep] at hb; cases hb; exact h.slots t
theorem RepD.backS {kv : Nat → Value} (h : RepD Γ (X.wkv kv) N ds σ a w G St own) (hk : ∀ t, kv t = a.tmps.getD t undef) : RepD Γ X N ds σ.back a w G St own := by
  refine h.ctx (fun k hk => ?_) h.size h.defs h.dsq h.inv h.st0 h.stn h.blt h.ownlt h.ownb (fun t => ?_) fun t l hb => ?_
  · cases k with
    | v t => exact (hk t rfl).elim
    | _ => rfl
  · show repLv _ _ _ _ (vslot (σ.mem (.v t))) _
    cases hm : σ.mem (.v t) with
    | cell l => rw [← hk]; exact h.virts t l hm
    | _ => simp only [vslot, repLv]
  · simp only [VS.back] at hb; cases hb

theorem RepD.puts : ∀ {ps : List Nat} {vs : List V} {us : List Value} {σ : VS} {a : Act}, RepD Γ X N ds σ a w G St own → (∀ t ∈ ps, t < N) → repT St (rdW w) vs us →
    RepD Γ X N ds (VS.puts (ps.zip vs) σ) { a with tmps := (ps.zip us).foldl (fun tmps (x : Nat × Value) => tmps.setIfInBounds x.1 x.2) a.tmps } w G St own
  | [], vs, us, σ, a, h, _, _ => by simpa [VS.puts] using h
  | p :: ps, [], us, σ, a, h, _, hv => by
    simp only [repT] at hv; subst hv
    simpa [VS.puts] using h
  | p :: ps, v :: vs, us, σ, a, h, hp, hv => by
    simp only [repT] at hv
    obtain ⟨u, r, rfl, q1, q2⟩ := hv
    have h1 := h.put (hp p (by simp)) (l := .p v) (v := u) (by simpa only [repLv, rep] using q1)
    have := RepD.puts (ps := ps) h1 (fun t ht => hp t (List.mem_cons_of_mem _ ht)) q2
    simpa [VS.puts, Act.put] using this

def RI (Γ : Nat → Option (List V)) (X : Ctx) (N : Nat) (S0 : Nat → Nat → Prop) (a : Act) (l : Nat) (Φ : VS → Prop) (r : Loop) (it : Nat → Prop) (Si : Nat → Nat → Prop) (w : World) : Prop :=
  ∃ τ G S own, Φ τ ∧ RepD Γ (X.wkv fun t => a.tmps.getD t undef) N dsM τ.shut a w G S own ∧ (∀ b o, S0 b o → S b o) ∧ (∀ k, it k → own k ∧ (∀ t, blkOf τ.mem G t ≠ some k) ∧ ∀ o, S k o → Si k o) ∧ (own l ∧ (∀ t, blkOf τ.mem G t ≠ some l) ∧ ∀ o, ¬ S l o) ∧ ¬ it l ∧ w.heap[l]? = some (.loop r)
theorem RI.step {S0 Si Si' : Nat → Nat → Prop} {l : Nat} {Φ : VS → Prop} {r : Loop} (h : RI Γ X N S0 a l Φ r it Si w) (hs : Stp it w w') (hr : ∀ b o, Si b o → w'.cell? ⟨b, o, none⟩ = w.cell? ⟨b, o, none⟩) (hS : ∀ b o, Si b o → Si' b o) : RI Γ X N S0 a l Φ r (fun b => it b ∨ (w.heap.size ≤ b ∧ b < w'.heap.size)) Si' w' := by
  obtain ⟨τ, G, S, own, h1, h2, h3, h4, h7, h5, h6⟩ := h
  have hl : l < w.heap.size := (Array.getElem?_eq_some_iff.1 h6).1
  have hrd : ∀ b o, S b o → rdW w' b o = rdW w b o := fun b o hb => by
    by_cases hi : it b
    · exact hr b o ((h4 b hi).2.2 o hb)
    · exact rdW_of_block (hs.block b (h2.stlt b o hb) hi)
  refine ⟨τ, G, S, _, h1, h2.turn hs (fun k hk => (h4 k hk).1) (fun t b hb hi => (h4 b hi).2.1 t hb) hrd, h3, fun k hk => ?_, ⟨.inl h7.1, h7.2⟩, fun hk => ?_, by rw [hs.block l hl h5]; exact h6⟩
  · rcases hk with hk | hk
    · obtain ⟨p, q, r⟩ := h4 k hk; exact ⟨.inl p, q, fun o ho => hS k o (r o ho)⟩
    · refine ⟨.inr hk, fun t ht => ?_, fun o ho => ?_⟩
      · have := h2.blk_lt (t := t) ht; omega
      · have := h2.stlt _ _ ho; omega
  · rcases hk with hk | hk
    · exact h5 hk
    · omega

def roundV (Inv : Nat → VS → Prop) (i : Nat) (C : Exit → VS → Prop) : Exit → VS → Prop
  | .normal, σ => ∃ τ, WkS σ.shut τ ∧ Inv (i + 1) τ
  | .ret, σ => C .ret σ.back
  | .exit id, σ => C (.exit id) σ.back
  | _, _ => False
def thenN (K : VS → Prop) : Exit → VS → Prop
  | .normal, σ => K σ
  | _, _ => False
def jumpOf : Exit → Option Code
  | .ret => some .ret
  | .exit id => some (.exit id)
  | _ => none

def ctxI (Γ : Nat → Option (List V)) (X : Ctx) (N : Nat) (S0 : Nat → Nat → Prop) (a : Act) (l : Nat) (Inv : Nat → VS → Prop) (C : Exit → VS → Prop) (r : Loop) (B : Nat) : Ctx where
  I := fun m it Si w => match m with
    | .cnt i => RI Γ X N S0 a l (Inv i) r it Si w
    | .stop => ∃ e c, jumpOf e = some c ∧ RI Γ X N S0 a l (fun τ => C e τ.back) { r with state := .done, pending := some c } it Si w
    | _ => False
  St0 := S0
  B := B
  kv := fun _ => undef
  step := by
    intro m own Si w Si' w' h hs hr hS
    split at h
    · exact h.step hs hr hS
    · obtain ⟨e, c, he, h⟩ := h
      exact ⟨e, c, he, h.step hs hr hS⟩
    · exact h.elim
end Go.Vm
