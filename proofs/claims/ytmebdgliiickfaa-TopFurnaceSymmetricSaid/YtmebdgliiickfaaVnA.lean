import Derived.Test.YtmebdgliiickfaaVmZ
import Derived.ProofKit
set_option linter.all false
/- Arguments of a statement: what can be read of them, as values. -/
namespace Go.Vm
open Go.ChangeShapes Go.WideShapes

inductive Sh where
  | int (k : IntKind)
  | bool
  | str
  | sl (e : Sh)
  | st (fs : List Sh)

mutual
def Sh.width : Sh → Nat
  | .st fs => widths fs
  | _ => 1
def widths : List Sh → Nat
  | [] => 0
  | s :: ss => s.width + widths ss
end
mutual
def Sh.flat : Sh → Bool
  | .sl _ => false
  | .st fs => flats fs
  | _ => true
def flats : List Sh → Bool
  | [] => true
  | s :: ss => s.flat && flats ss
end
mutual
/-- A type is of this shape. -/
def shq (P : Program) : Sh → TypeId → Bool
  | .int k, t => match P.underlying t with | some (.int k') => k' == k | _ => false
  | .bool, t => match P.underlying t with | some .bool => true | _ => false
  | .str, t => match P.underlying t with | some .string => true | _ => false
  | .sl e, t => match P.underlying t with | some (.slice et) => e.flat && shq P e et && P.cellsOf et == e.width && decide (0 < e.width) | _ => false
  | .st fs, t => match P.underlying t with | some (.struct fields) => P.cellsOf t == widths fs && shqs P fs fields.toList 0 | _ => false
def shqs (P : Program) : List Sh → List Field → Nat → Bool
  | [], [], _ => true
  | s :: ss, f :: fl, o => f.offset == o && shq P s f.type && P.cellsOf f.type == s.width && shqs P ss fl (o + s.width)
  | _, _, _ => false
end
mutual
/-- A value of this shape. -/
def valE : Sh → V → Prop
  | .int k, x => ∃ n, x = .i k n ∧ (Lit.int k n).wf = true
  | .bool, x => ∃ b, x = .b b
  | .str, x => ∃ s, x = .s s ∧ s.size ≤ maxLen
  | .sl e, x => ∃ xs, x = .sl xs ∧ xs.length ≤ maxLen ∧ ∀ y ∈ xs, valE e y
  | .st fs, x => ∃ cs, x = .agg cs ∧ valCs fs cs
def valCs : List Sh → List V → Prop
  | [], l => l = []
  | s :: ss, l => ∃ a b, l = a ++ b ∧ (∃ x, valE s x ∧ x.cells = a) ∧ valCs ss b
end

def Sh.isSt : Sh → Bool | .st _ => true | _ => false
/-- All cells of a world stand still. -/
def stW (w : World) (b _o : Nat) : Prop := b < w.heap.size
def spotless (v : Value) : Prop := ∀ a len cap, v = .slice (some a) len cap → a.spot = none

section
variable {H : Type} {enc : TypeId × Value → H} {P : Program} {w : World} {base : Nat} {spare : Nat → Bool} {held : Bool}
theorem cell_lt {a : Addr} {v : Value} (h : w.cell? a = some v) : a.block < w.heap.size := by
  unfold World.cell? at h
  split at h
  · rename_i h1
    exact (Array.getElem?_eq_some_iff.1 h1).1
  · cases h
theorem cells_get {a : Addr} {n : Nat} {cs : List Value} (h : w.cells? base a n = some cs) : cs.length = n ∧ ∀ i, i < n → w.cell? (a.add i) = cs[i]? := by
  unfold World.cells? at h
  split at h
  · refine ⟨by simpa using mapM_some_length h, fun i hi => ?_⟩
    have := mapM_some_get h i i (by simp [hi])
    simpa using this
  · cases h
theorem cellsAt_of {b : Nat} : ∀ {cs : List Value} {o : Nat}, (∀ (i : Nat) (v : Value), cs[i]? = some v → w.cell? ⟨b, o + i, none⟩ = some v) → cellsAt (stW w) (rdW w) b o cs
  | [], _, _ => trivial
  | v :: r, o, h => by
    have h0 := h 0 v rfl
    exact ⟨⟨h0, cell_lt h0⟩, cellsAt_of fun i v hi => by have := h (i + 1) v (by simpa using hi); rw [show o + 1 + i = o + (i + 1) by omega]; exact this⟩

mutual
theorem trodE : ∀ (s : Sh) {t : TypeId} {fuel : Nat} {cs : List Value} {d : DataW H × List MemPlace}, shq P s t = true → (s.flat = true ∨ ∀ v ∈ cs, spotless v) → DataW.trod enc P w base spare held fuel t cs = some d →
    ∃ x, valE s x ∧ repC (stW w) (rdW w) x cs ∧ x.isAgg = s.isSt
  | .int k, t, fuel, cs, d, hq, _, h => by
    simp only [shq] at hq
    split at hq
    · rename_i k' ht
      have e : k' = k := by simpa using hq
      subst e
      obtain ⟨n, h1, _, h2⟩ := DataW.trod_int ht h
      exact ⟨.i k' n, ⟨n, rfl, h2⟩, h1, rfl⟩
    · cases hq
  | .bool, t, fuel, cs, d, hq, _, h => by
    simp only [shq] at hq
    split at hq
    · rename_i ht
      obtain ⟨n, h1, _⟩ := DataW.trod_bool ht h
      exact ⟨.b n, ⟨n, rfl⟩, h1, rfl⟩
    · cases hq
  | .str, t, fuel, cs, d, hq, _, h => by
    simp only [shq] at hq
    split at hq
    · rename_i ht
      obtain ⟨n, h1, _, h2⟩ := DataW.trod_string ht h
      exact ⟨.s n, ⟨n, rfl, h2⟩, h1, rfl⟩
    · cases hq
  | .sl e, t, fuel, cs, d, hq, hs, h => by
    simp only [shq] at hq
    split at hq
    · rename_i et ht
      simp only [Bool.and_eq_true, beq_iff_eq, decide_eq_true_eq] at hq
      obtain ⟨⟨⟨hf, hqe⟩, hce⟩, hpos⟩ := hq
      rcases DataW.trod_slice ht h with ⟨h0, _⟩ | ⟨a, len, cap, elems, rest, n, _, rfl, _, hb, hl, hm, hlen, hel, _, _⟩
      · exact ⟨.sl [], ⟨[], rfl, Nat.zero_le _, by simp⟩, .inl ⟨rfl, h0⟩, rfl⟩
      · have hsp : a.spot = none := by
          rcases hs with hs | hs
          · simp [Sh.flat] at hs
          · exact hs _ (by simp) a len cap rfl
        obtain ⟨b, o, sp⟩ := a
        simp only at hsp
        subst hsp
        have hadd : ∀ k, (⟨b, o, none⟩ : Addr).add k = ⟨b, o + k, none⟩ := fun k => by
          unfold Addr.add; split
          · rename_i h; subst h; rfl
          · rfl
        -- each element
        have each : ∀ i, i < len → ∃ x vs, valE e x ∧ vs.length = e.width ∧ cellsAt (stW w) (rdW w) b (o + i * e.width) vs ∧ repC (stW w) (rdW w) x vs := fun i hi => by
          have h1 := hel i hi
          have hi2 : i < elems.length := by omega
          rw [List.getElem?_eq_getElem hi2] at h1
          obtain ⟨vs, hvs, htr⟩ := Option.bind_eq_some_iff.1 h1
          obtain ⟨c1, c2⟩ := cells_get hvs
          obtain ⟨x, x1, x2, _⟩ := trodE e hqe (.inl hf) htr
          refine ⟨x, vs, x1, by omega, cellsAt_of fun j v hj => ?_, x2⟩
          have hjl : j < P.cellsOf et := by have := (List.getElem?_eq_some_iff.1 hj).1; omega
          have := c2 j hjl
          rw [hadd] at this
          have e2 : (⟨b, o + i * P.cellsOf et, none⟩ : Addr).add j = ⟨b, o + i * e.width + j, none⟩ := by
            unfold Addr.add; split
            · rename_i h; subst h; rw [hce]; rfl
            · rw [hce]
          rw [e2, hj] at this
          exact this
        have all : ∀ m, m ≤ len → ∃ xs : List V, xs.length = m ∧ (∀ y ∈ xs, valE e y) ∧ ∀ i x, xs[i]? = some x → ∃ vs, vs.length = e.width ∧ cellsAt (stW w) (rdW w) b (o + i * e.width) vs ∧ repC (stW w) (rdW w) x vs := by
          intro m
          induction m with
          | zero => intro _; exact ⟨[], rfl, by simp, by simp⟩
          | succ m ih =>
            intro hm
            obtain ⟨xs, l1, l2, l3⟩ := ih (by omega)
            obtain ⟨x, vs, y1, y2, y3, y4⟩ := each m (by omega)
            refine ⟨xs ++ [x], by simp [l1], fun y hy => ?_, fun i z hz => ?_⟩
            · rcases List.mem_append.1 hy with hy | hy
              · exact l2 y hy
              · simp at hy; subst hy; exact y1
            · by_cases hi : i < xs.length
              · rw [List.getElem?_append_left hi] at hz; exact l3 i z hz
              · rw [List.getElem?_append_right (by omega)] at hz
                have hi2 : i = m := by
                  have := (List.getElem?_eq_some_iff.1 hz).1
                  simp at this; omega
                subst hi2
                simp [l1] at hz
                subst hz
                exact ⟨vs, y2, y3, y4⟩
        obtain ⟨xs, l1, l2, l3⟩ := all len (Nat.le_refl _)
        refine ⟨.sl xs, ⟨xs, rfl, by omega, l2⟩, .inr ⟨b, o, cap, e.width, by rw [l1], by omega, ?_⟩, rfl⟩
        exact repE_get.2 l3
    · cases hq
  | .st fs, t, fuel, cs, d, hq, hs, h => by
    simp only [shq] at hq
    split at hq
    · rename_i fields ht
      simp only [Bool.and_eq_true, beq_iff_eq] at hq
      obtain ⟨xs, n, _, _, h2, h3, h4⟩ := DataW.trod_struct ht h
      have hs' : flats fs = true ∨ ∀ v ∈ cs, spotless v := by
        rcases hs with hs | hs
        · exact .inl (by simpa [Sh.flat] using hs)
        · exact .inr hs
      obtain ⟨l, p1, p2⟩ := trodL fs (cs := cs) (fl := fields.toList) (o := 0) (n := n) hq.2 hs' (by rw [h2, hq.1]; omega) fun i f hf => by
        have := h4 i f (by simpa using hf)
        have hi : i < xs.length := by have := (List.getElem?_eq_some_iff.1 hf).1; simp at this; omega
        rw [List.getElem?_eq_getElem hi] at this
        exact ⟨_, this⟩
      refine ⟨.agg l, ⟨l, rfl, p1⟩, ?_, rfl⟩
      have : cs.drop 0 = cs := rfl
      simp only [repC]
      have hw : (cs.drop 0).take (widths fs) = cs := by rw [List.drop_zero, List.take_of_length_le (by omega)]
      rw [hw] at p2; exact p2
    · cases hq
theorem trodL : ∀ (ss : List Sh) {fl : List Field} {o n : Nat} {cs : List Value}, shqs P ss fl o = true → (flats ss = true ∨ ∀ v ∈ cs, spotless v) → o + widths ss ≤ cs.length →
    (∀ (i : Nat) (f : Field), fl[i]? = some f → ∃ d, DataW.trod enc P w base spare held n f.type ((cs.drop f.offset).take (P.cellsOf f.type)) = some d) →
    ∃ l, valCs ss l ∧ repL (stW w) (rdW w) l ((cs.drop o).take (widths ss))
  | [], fl, o, n, cs, _, _, _, _ => ⟨[], rfl, by simp [widths, repL]⟩
  | s :: ss, [], o, n, cs, hq, _, _, _ => by simp [shqs] at hq
  | s :: ss, f :: fl, o, n, cs, hq, hs, hle, h => by
    simp only [shqs, Bool.and_eq_true, beq_iff_eq] at hq
    obtain ⟨⟨⟨h1, h2⟩, h3⟩, h4⟩ := hq
    simp only [widths] at hle ⊢
    obtain ⟨d, hd⟩ := h 0 f rfl
    rw [h1, h3] at hd
    have hsub : s.flat = true ∨ ∀ v ∈ (cs.drop o).take s.width, spotless v := by
      rcases hs with hs | hs
      · simp [flats] at hs; exact .inl hs.1
      · exact .inr fun v hv => hs v (List.mem_of_mem_drop (List.mem_of_mem_take hv))
    have hsub2 : flats ss = true ∨ ∀ v ∈ cs, spotless v := by
      rcases hs with hs | hs
      · simp [flats] at hs; exact .inl hs.2
      · exact .inr hs
    obtain ⟨x, x1, x2, _⟩ := trodE s h2 hsub hd
    obtain ⟨l, l1, l2⟩ := trodL ss (o := o + s.width) h4 hsub2 (by omega) fun i f hf => h (i + 1) f (by simpa using hf)
    refine ⟨x.cells ++ l, ⟨x.cells, l, rfl, ⟨x, x1, rfl⟩, l1⟩, ?_⟩
    have e0 : (cs.drop o).take (s.width + widths ss) = (cs.drop o).take s.width ++ (cs.drop (o + s.width)).take (widths ss) := by
      rw [List.take_add, List.drop_drop]
    rw [e0]
    exact repL_append ((repC_cells x _).1 x2) l2
end
end
end Go.Vm
