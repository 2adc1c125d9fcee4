import Derived.Test.YtafnpnopefamkaaVmBC
import Derived.ProofKit
import Derived.Below
import Derived.ChangeSame
set_option linter.all false
namespace Go.Vm
open Go.ChangeShapes Go.WideShapes

inductive Sh where
  | int (k : IntKind)
  | bool
  | str
  | sl (e : Sh)
  | st (fs : List Sh)

mutual
def Sh.width : Sh → Nat
  | .st fs => widths fs
  | _ => 1
def widths : List Sh → Nat
  | [] => 0
  | s :: ss => s.width + widths ss
end
mutual
def shq (P : Program) : Sh → TypeId → Bool
  | .int k, t => match P.underlying t with | some (.int k') => k' == k | _ => false
  | .bool, t => match P.underlying t with | some .bool => true | _ => false
  | .str, t => match P.underlying t with | some .string => true | _ => false
  | .sl e, t => match P.underlying t with | some (.slice et) => shq P e et && P.cellsOf et == e.width && decide (0 < e.width) | _ => false
  | .st fs, t => match P.underlying t with | some (.struct fields) => P.cellsOf t == widths fs && shqs P fs fields.toList 0 | some (.array n e) => P.cellsOf t == widths fs && fs.length == n && shqa P fs e | _ => false
def shqs (P : Program) : List Sh → List Field → Nat → Bool
  | [], [], _ => true
  | s :: ss, f :: fl, o => f.offset == o && shq P s f.type && P.cellsOf f.type == s.width && shqs P ss fl (o + s.width)
  | _, _, _ => false
def shqa (P : Program) : List Sh → TypeId → Bool
  | [], _ => true
  | s :: ss, e => shq P s e && P.cellsOf e == s.width && shqa P ss e
end
mutual
def valE : Sh → V → Prop
  | .int k, x => ∃ n, x = .i k n ∧ (Lit.int k n).wf = true
  | .bool, x => ∃ b, x = .b b
  | .str, x => ∃ s, x = .s s ∧ s.size ≤ maxLen
  | .sl e, x => ∃ xs, x = .sl xs ∧ xs.length ≤ maxLen ∧ ∀ y ∈ xs, valE e y
  | .st fs, x => ∃ cs, x = .agg cs ∧ valCs fs cs
def valCs : List Sh → List V → Prop
  | [], l => l = []
  | s :: ss, l => ∃ a b, l = a ++ b ∧ (∃ x, valE s x ∧ x.cells = a) ∧ valCs ss b
end

def Sh.isSt : Sh → Bool | .st _ => true | _ => false
def stW (w : World) (b _o : Nat) : Prop := b < w.heap.size

section
variable {H : Type} {enc : TypeId × Value → H} {P : Program} {w : World} {base : Nat} {spare : Nat → Bool} {held : Bool}
theorem cell_lt {a : Addr} {v : Value} (h : w.cell? a = some v) : a.block < w.heap.size := by
  unfold World.cell? at h
  split at h
  · rename_i h1
    exact (Array.getElem?_eq_some_iff.1 h1).1
  · cases h
theorem cells_get {a : Addr} {n : Nat} {cs : List Value} (h : w.cells? base a n = some cs) : cs.length = n ∧ ∀ i, i < n → w.cell? (a.add i) = cs[i]? := by
  unfold World.cells? at h
  split at h
  · refine ⟨by simpa using mapM_some_length h, fun i hi => ?_⟩
    have := mapM_some_get h i i (by simp [hi])
    simpa using this
  · cases h
theorem cellsAt_of {b : Nat} : ∀ {cs : List Value} {o : Nat}, (∀ (i : Nat) (v : Value), cs[i]? = some v → w.cell? ⟨b, o + i, none⟩ = some v) → cellsAt (stW w) (rdW w) b o cs
  | [], _, _ => trivial
  | v :: r, o, h => by
    have h0 := h 0 v rfl
    exact ⟨⟨h0, cell_lt h0⟩, cellsAt_of fun i v hi => by have := h (i + 1) v (by simpa using hi); rw [show o + 1 + i = o + (i + 1) by omega]; exact this⟩

theorem trod_arrI {n0 : Nat} {t e : TypeId} {fuel : Nat} {cs : List Value} {x : DataW H × List MemPlace} (ht : P.underlying t = some (.array n0 e)) (h : DataW.trod enc P w base spare held fuel t cs = some x) :
    ∃ n, cs.length = P.cellsOf t ∧ ∀ i, i < n0 → ∃ d, DataW.trod enc P w base spare held n e ((cs.drop (i * P.cellsOf e)).take (P.cellsOf e)) = some d := by
  cases fuel with
  | zero => simp [DataW.trod] at h
  | succ n =>
    unfold DataW.trod at h
    rw [ht] at h
    split at h <;> simp_all
    obtain ⟨hl, xs, hp, hd⟩ := h
    refine ⟨n, fun i hi => ?_⟩
    have h1 := mapM_some_length hp
    have h2 := mapM_some_get hp i i (by simp [hi])
    have h3 : i < xs.length := by simp at h1; omega
    rw [List.getElem?_eq_getElem h3] at h2
    exact ⟨_, _, h2⟩

mutual
theorem trodE : ∀ (s : Sh) {t : TypeId} {fuel : Nat} {cs : List Value} {d : DataW H × List MemPlace}, shq P s t = true → DataW.trod enc P w base spare held fuel t cs = some d →
    ∃ x, valE s x ∧ repC (stW w) (rdW w) x cs ∧ x.isAgg = s.isSt
  | .int k, t, fuel, cs, d, hq, h => by
    simp only [shq] at hq
    split at hq
    · rename_i k' ht
      have e : k' = k := by simpa using hq
      subst e
      obtain ⟨n, h1, _, h2⟩ := DataW.trod_int ht h
      exact ⟨.i k' n, ⟨n, rfl, h2⟩, h1, rfl⟩
    · cases hq
  | .bool, t, fuel, cs, d, hq, h => by
    simp only [shq] at hq
    split at hq
    · rename_i ht
      obtain ⟨n, h1, _⟩ := DataW.trod_bool ht h
      exact ⟨.b n, ⟨n, rfl⟩, h1, rfl⟩
    · cases hq
  | .str, t, fuel, cs, d, hq, h => by
    simp only [shq] at hq
    split at hq
    · rename_i ht
      obtain ⟨n, h1, _, h2⟩ := DataW.trod_string ht h
      exact ⟨.s n, ⟨n, rfl, h2⟩, h1, rfl⟩
    · cases hq
  | .sl e, t, fuel, cs, d, hq, h => by
    simp only [shq] at hq
    split at hq
    · rename_i et ht
      simp only [Bool.and_eq_true, beq_iff_eq, decide_eq_true_eq] at hq
      obtain ⟨⟨hqe, hce⟩, hpos⟩ := hq
      rcases DataW.trod_slice ht h with ⟨h0, _⟩ | ⟨a, len, cap, elems, rest, n, _, rfl, _, hb, hl, hm, hlen, hel, _, _⟩
      · exact ⟨.sl [], ⟨[], rfl, Nat.zero_le _, by simp⟩, .inl ⟨rfl, _, _, h0⟩, rfl⟩
      · rcases Nat.eq_zero_or_pos len with hz | hz
        · subst hz
          exact ⟨.sl [], ⟨[], rfl, Nat.zero_le _, by simp⟩, .inl ⟨rfl, _, _, rfl⟩, rfl⟩
        have hsp : a.spot = none := by
          have h1 := hel 0 hz
          rw [List.getElem?_eq_getElem (by omega)] at h1
          obtain ⟨vs, hvs, _⟩ := Option.bind_eq_some_iff.1 h1
          obtain ⟨c1, c2⟩ := cells_get hvs
          have h2 := c2 0 (by omega)
          have hlen : 0 < vs.length := by omega
          rw [List.getElem?_eq_getElem hlen, Nat.zero_mul] at h2
          have h3 : (a.add 0).add 0 = a := by simp [Addr.add]
          rw [h3] at h2
          unfold World.cell? at h2
          split at h2
          · cases hs : a.spot with
            | none => rfl
            | some k => rw [hs] at h2; simp at h2
          · cases h2
        obtain ⟨b, o, sp⟩ := a
        simp only at hsp
        subst hsp
        have hadd : ∀ k, (⟨b, o, none⟩ : Addr).add k = ⟨b, o + k, none⟩ := fun k => by
          unfold Addr.add; split
          · rename_i h; subst h; rfl
          · rfl
        -- each element
        have each : ∀ i, i < len → ∃ x vs, valE e x ∧ vs.length = e.width ∧ cellsAt (stW w) (rdW w) b (o + i * e.width) vs ∧ repC (stW w) (rdW w) x vs := fun i hi => by
          have h1 := hel i hi
          have hi2 : i < elems.length := by omega
          rw [List.getElem?_eq_getElem hi2] at h1
          obtain ⟨vs, hvs, htr⟩ := Option.bind_eq_some_iff.1 h1
          obtain ⟨c1, c2⟩ := cells_get hvs
          obtain ⟨x, x1, x2, _⟩ := trodE e hqe htr
          refine ⟨x, vs, x1, by omega, cellsAt_of fun j v hj => ?_, x2⟩
          have hjl : j < P.cellsOf et := by have := (List.getElem?_eq_some_iff.1 hj).1; omega
          have := c2 j hjl
          rw [hadd] at this
          have e2 : (⟨b, o + i * P.cellsOf et, none⟩ : Addr).add j = ⟨b, o + i * e.width + j, none⟩ := by
            unfold Addr.add; split
            · rename_i h; subst h; rw [hce]; rfl
            · rw [hce]
          rw [e2, hj] at this
          exact this
        have all : ∀ m, m ≤ len → ∃ xs : List V, xs.length = m ∧ (∀ y ∈ xs, valE e y) ∧ ∀ i x, xs[i]? = some x → ∃ vs, vs.length = e.width ∧ cellsAt (stW w) (rdW w) b (o + i * e.width) vs ∧ repC (stW w) (rdW w) x vs := by
          intro m
          induction m with
          | zero => intro _; exact ⟨[], rfl, by simp, by simp⟩
          | succ m ih =>
            intro hm
            obtain ⟨xs, l1, l2, l3⟩ := ih (by omega)
            obtain ⟨x, vs, y1, y2, y3, y4⟩ := each m (by omega)
            refine ⟨xs ++ [x], by simp [l1], fun y hy => ?_, fun i z hz => ?_⟩
            · rcases List.mem_append.1 hy with hy | hy
              · exact l2 y hy
              · simp at hy; subst hy; exact y1
            · by_cases hi : i < xs.length
              · rw [List.getElem?_append_left hi] at hz; exact l3 i z hz
              · rw [List.getElem?_append_right (by omega)] at hz
                have hi2 : i = m := by
                  have := (List.getElem?_eq_some_iff.1 hz).1
                  simp at this; omega
                subst hi2
                simp [l1] at hz
                subst hz
                exact ⟨vs, y2, y3, y4⟩
        obtain ⟨xs, l1, l2, l3⟩ := all len (Nat.le_refl _)
        refine ⟨.sl xs, ⟨xs, rfl, by omega, l2⟩, .inr ⟨b, o, cap, e.width, by rw [l1], by omega, ?_⟩, rfl⟩
        exact repE_get.2 l3
    · cases hq
  | .st fs, t, fuel, cs, d, hq, h => by
    simp only [shq] at hq
    split at hq
    · rename_i fields ht
      simp only [Bool.and_eq_true, beq_iff_eq] at hq
      obtain ⟨xs, n, _, _, h2, h3, h4⟩ := DataW.trod_struct ht h
      obtain ⟨l, p1, p2⟩ := trodL fs (cs := cs) (fl := fields.toList) (o := 0) (n := n) hq.2 (by rw [h2, hq.1]; omega) fun i f hf => by
        have := h4 i f (by simpa using hf)
        have hi : i < xs.length := by have := (List.getElem?_eq_some_iff.1 hf).1; simp at this; omega
        rw [List.getElem?_eq_getElem hi] at this
        exact ⟨_, this⟩
      refine ⟨.agg l, ⟨l, rfl, p1⟩, ?_, rfl⟩
      have : cs.drop 0 = cs := rfl
      simp only [repC]
      have hw : (cs.drop 0).take (widths fs) = cs := by rw [List.drop_zero, List.take_of_length_le (by omega)]
      rw [hw] at p2; exact p2
    · rename_i n0 e ht
      simp only [Bool.and_eq_true, beq_iff_eq] at hq
      obtain ⟨n, h2, h4⟩ := trod_arrI ht h
      obtain ⟨l, p1, p2⟩ := trodA fs (e := e) (i := 0) (n := n) (cs := cs) hq.2 (by rw [h2, hq.1.1]; omega) fun j hj => by
        rw [Nat.zero_add]; exact h4 j (by omega)
      refine ⟨.agg l, ⟨l, rfl, p1⟩, ?_, rfl⟩
      simp only [repC]
      have hw : (cs.drop (0 * P.cellsOf e)).take (widths fs) = cs := by rw [Nat.zero_mul, List.drop_zero, List.take_of_length_le (by omega)]
      rw [hw] at p2; exact p2
    · cases hq
theorem trodL : ∀ (ss : List Sh) {fl : List Field} {o n : Nat} {cs : List Value}, shqs P ss fl o = true → o + widths ss ≤ cs.length →
    (∀ (i : Nat) (f : Field), fl[i]? = some f → ∃ d, DataW.trod enc P w base spare held n f.type ((cs.drop f.offset).take (P.cellsOf f.type)) = some d) →
    ∃ l, valCs ss l ∧ repL (stW w) (rdW w) l ((cs.drop o).take (widths ss))
  | [], fl, o, n, cs, _, _, _ => ⟨[], rfl, by simp [widths, repL]⟩
  | s :: ss, [], o, n, cs, hq, _, _ => by simp [shqs] at hq
  | s :: ss, f :: fl, o, n, cs, hq, hle, h => by
    simp only [shqs, Bool.and_eq_true, beq_iff_eq] at hq
    obtain ⟨⟨⟨h1, h2⟩, h3⟩, h4⟩ := hq
    simp only [widths] at hle ⊢
    obtain ⟨d, hd⟩ := h 0 f rfl
    rw [h1, h3] at hd
    obtain ⟨x, x1, x2, _⟩ := trodE s h2 hd
    obtain ⟨l, l1, l2⟩ := trodL ss (o := o + s.width) h4 (by omega) fun i f hf => h (i + 1) f (by simpa using hf)
    refine ⟨x.cells ++ l, ⟨x.cells, l, rfl, ⟨x, x1, rfl⟩, l1⟩, ?_⟩
    have e0 : (cs.drop o).take (s.width + widths ss) = (cs.drop o).take s.width ++ (cs.drop (o + s.width)).take (widths ss) := by
      rw [List.take_add, List.drop_drop]
    rw [e0]
    exact repL_append ((repC_cells x _).1 x2) l2
theorem trodA : ∀ (ss : List Sh) {e : TypeId} {i n : Nat} {cs : List Value}, shqa P ss e = true → i * P.cellsOf e + widths ss ≤ cs.length →
    (∀ j, j < ss.length → ∃ d, DataW.trod enc P w base spare held n e ((cs.drop ((i + j) * P.cellsOf e)).take (P.cellsOf e)) = some d) →
    ∃ l, valCs ss l ∧ repL (stW w) (rdW w) l ((cs.drop (i * P.cellsOf e)).take (widths ss))
  | [], e, i, n, cs, _, _, _ => ⟨[], rfl, by simp [widths, repL]⟩
  | s :: ss, e, i, n, cs, hq, hle, h => by
    simp only [shqa, Bool.and_eq_true, beq_iff_eq] at hq
    obtain ⟨⟨h2, h3⟩, h4⟩ := hq
    simp only [widths] at hle ⊢
    have hs : (i + 1) * P.cellsOf e = i * P.cellsOf e + s.width := by rw [Nat.add_mul, Nat.one_mul, h3]
    obtain ⟨d, hd⟩ := h 0 (by simp)
    rw [Nat.add_zero, h3] at hd
    obtain ⟨x, x1, x2, _⟩ := trodE s h2 hd
    obtain ⟨l, l1, l2⟩ := trodA ss (e := e) (i := i + 1) (n := n) (cs := cs) h4 (by rw [hs]; omega) fun j hj => by
      have := h (j + 1) (by simp; omega)
      rw [show i + 1 + j = i + (j + 1) by omega]; exact this
    refine ⟨x.cells ++ l, ⟨x.cells, l, rfl, ⟨x, x1, rfl⟩, l1⟩, ?_⟩
    have e0 : (cs.drop (i * P.cellsOf e)).take (s.width + widths ss) = (cs.drop (i * P.cellsOf e)).take s.width ++ (cs.drop ((i + 1) * P.cellsOf e)).take (widths ss) := by
      rw [hs, List.take_add, List.drop_drop]
    rw [e0]
    rw [h3] at l2 ⊢
    exact repL_append ((repC_cells x _).1 x2) l2
end
end
end Go.Vm

namespace Go.Vm
open Go.ChangeShapes Go.WideShapes Go.RowKit
variable {H : Type} {enc : TypeId × Value → H} {P : Program} {W W' : World}

def valAll : List Sh → List V → Prop
  | [], [] => True
  | s :: ss, x :: xs => valE s x ∧ valAll ss xs
  | _, _ => False
def shqAll (P : Program) : List Sh → List TypeId → Bool
  | [], [] => true
  | s :: ss, t :: ts => shq P s t && shqAll P ss ts
  | _, _ => false

theorem arg_rep {s : Sh} {base : Nat} {t : TypeId} {v : Value} {d : DataW H} {ps : List MemPlace} (hq : shq P s t = true) (hval : Value.okWide P W .any base t v) (h : DataW.Trod enc P W 0 (fun _ => true) true t v d ps) :
    ∃ x, valE s x ∧ rep (stW W) (rdW W) x v := by
  obtain ⟨fuel, hf⟩ := h
  obtain ⟨x, h1, h2, h3⟩ := trodE s hq hf
  refine ⟨x, h1, h2, ?_⟩
  rw [h3]
  unfold Value.okWide at hval
  cases s with
  | st fs =>
    simp only [shq] at hq
    split at hq
    · rename_i fields ht
      rw [ht] at hval
      obtain ⟨cs, rfl, _⟩ := hval
      rfl
    · rename_i n0 e ht
      rw [ht] at hval
      obtain ⟨cs, rfl, _⟩ := hval
      rfl
    · cases hq
  | _ =>
    simp only [shq] at hq
    split at hq
    · rename_i ht
      rw [ht] at hval
      simp only at hval
      cases v with
      | agg cs => unfold Cell.okWide at hval; rw [ht] at hval; simp [Cell.ok, ht] at hval
      | _ => rfl
    · cases hq

theorem args_rep : ∀ {shs : List Sh} {ts : List TypeId} {vs : List Value} {ds : List (DataW H)} {ps : List MemPlace} {base : Nat}, shqAll P shs ts = true → DataW.TrodAll enc P W 0 (fun _ => true) true ts vs ds ps →
    (∀ (j : Nat) (t : TypeId) (v : Value), ts[j]? = some t → vs[j]? = some v → Value.okWide P W .any base t v) → ∃ xs, valAll shs xs ∧ repT (stW W) (rdW W) xs vs
  | [], [], [], [], ps, base, _, _, _ => ⟨[], trivial, by simp only [repT]⟩
  | s :: ss, t :: ts, v :: vs, d :: ds, ps, base, hq, h, hval => by
    simp only [shqAll, Bool.and_eq_true] at hq
    obtain ⟨p, q, h1, h2, _⟩ := h
    obtain ⟨x, x1, x2⟩ := arg_rep hq.1 (hval 0 t v rfl rfl) h1
    obtain ⟨xs, y1, y2⟩ := args_rep hq.2 h2 fun j t v ht hv => hval (j + 1) t v (by simpa using ht) (by simpa using hv)
    exact ⟨x :: xs, ⟨x1, y1⟩, by simp only [repT]; exact ⟨v, vs, rfl, x2, y2⟩⟩
  | [], _ :: _, _, _, _, _, hq, _, _ => by simp [shqAll] at hq
  | _ :: _, [], _, _, _, _, hq, _, _ => by simp [shqAll] at hq
  | [], [], _ :: _, _, _, _, _, h, _ => h.elim
  | [], [], [], _ :: _, _, _, _, h, _ => h.elim
  | _ :: _, _ :: _, [], _, _, _, _, h, _ => h.elim
  | _ :: _, _ :: _, _ :: _, [], _, _, _, h, _ => h.elim

theorem args_stay (hl : laidOutB P = true) {sp : Nat → Bool} (hb : Below W.heap.size W W') : ∀ {ts : List TypeId} {vs : List Value} {ds : List (DataW H)} {ps : List MemPlace}, (ts.all fun t => P.readableRec t && decide (t < P.types.size)) = true →
    DataW.TrodAll enc P W 0 (fun _ => true) true ts vs ds ps → (∀ p ∈ ps, p.block < W.heap.size) → (∀ p ∈ ps, sp p.block = true) → DataW.TrodAll enc P W' 0 sp true ts vs ds ps
  | [], [], [], ps, _, h, _, _ => h
  | t :: ts, v :: vs, d :: ds, ps, hr, h, hlt, hs => by
    simp only [List.all_cons, Bool.and_eq_true, decide_eq_true_eq] at hr
    obtain ⟨p, q, h1, h2, rfl⟩ := h
    exact ⟨p, q, WideElems.Trod_stays hl hr.1.1 hr.1.2 h1 (fun x hx => hb.same (hlt x (List.mem_append_left _ hx))) (fun x hx => hs x (List.mem_append_left _ hx)),
      args_stay hl hb hr.2 h2 (fun x hx => hlt x (List.mem_append_right _ hx)) (fun x hx => hs x (List.mem_append_right _ hx)), rfl⟩
  | [], _ :: _, _, _, _, h, _, _ => h.elim
  | [], [], _ :: _, _, _, h, _, _ => h.elim
  | _ :: _, [], _, _, _, h, _, _ => h.elim
  | _ :: _, _ :: _, [], _, _, h, _, _ => h.elim

theorem law_calls {f : FuncId} {fn : Func} {s : ChangeSpec} {apart fresh handsOn : Bool} {base : Nat} {args : Array Value} {ds gs : List (DataW H)} {before : List MemPlace} {shs : List Sh} {tb : TypeId}
    (hl : laidOutB P = true) (hsh : shqAll P shs fn.params.toList = true) (hrd : (fn.params.toList.all fun t => P.readableRec t && decide (t < P.types.size)) = true)
    (hvars : s.vars = []) (hres : fn.resultTypes = #[tb]) (hbool : P.underlying tb = some .bool)
    (hfn : ∀ ds : List (DataW H), ds.length = fn.params.toList.length → s.fn H ds = { results := [.lit (.bool true)], args := ds })
    (hspec : ∀ xs, valAll shs xs → Spec P (fun _ => none) f xs (R.v (.b true)))
    (hval : ∀ (j : Nat) t v, fn.params[j]? = some t → args[j]? = some v → Value.okWide P W .any base t v)
    (hW : DataW.Whole enc P fn.params.toList s.vars apart W args.toList ds gs before) :
    Calls P f args W fun e W' => ∃ v, e = .returned v ∧ s.post enc P fn apart fresh handsOn false W args v W' := by
  have hlt : ∀ p ∈ before, p.block < W.heap.size := fun p hp => hW.lt p hp
  have hW0 := hW
  obtain ⟨p, q, hA, hV, rfl, hfz, hnd⟩ := hW
  rw [hvars] at hV
  obtain ⟨rfl, rfl⟩ := trodVars_none hV
  obtain ⟨xs, x1, x2⟩ := args_rep hsh hA fun j t v ht hv => hval j t v (by simpa using ht) (by simpa using hv)
  have hlen : ds.length = fn.params.toList.length := by
    have : ∀ {ts : List TypeId} {vs : List Value} {ds : List (DataW H)} {ps : List MemPlace}, DataW.TrodAll enc P W 0 (fun _ => true) true ts vs ds ps → ds.length = ts.length := by
      intro ts
      induction ts with
      | nil => intro vs ds ps h; cases vs <;> cases ds <;> simp_all [DataW.TrodAll]
      | cons t ts ih =>
        intro vs ds ps h
        cases vs with
        | nil => exact h.elim
        | cons v vs =>
          cases ds with
          | nil => exact h.elim
          | cons d ds => obtain ⟨p, q, _, h2, _⟩ := h; simp [ih h2]
    exact this hA
  have hc := (hspec xs x1).2.1 (stW W) W args.toList (fun _ _ h => h) (fun g cs h => by cases h) x2
  have ha : args.toList.toArray = args := by simp
  rw [ha] at hc
  refine hc.mono ?_
  rintro e W' ⟨v, St', bl, rfl, hbel, _, _, _, _, hr⟩
  simp only [R.v, repR, repR1, repRC, rep, repC] at hr
  have hv : v = .bool true := val_of_one hr.1.1 hr.1.2
  subst hv
  refine ⟨_, rfl, ?_⟩
  have hfn' := hfn (ds ++ []) (by simpa using hlen)
  refine ⟨ds, [], p ++ [], [], p, [], hW0, ?_, ?_, ?_, ?_, fun h => by cases h⟩
  · rw [hfn', hres]
    exact trodAll_mk1 (shut_bool hbool true)
  · rw [hfn', List.append_nil]
    exact args_stay hl hbel hrd hA (fun x hx => hlt x (List.mem_append_left _ hx)) fun x hx => by simpa using hlt x (List.mem_append_left _ hx)
  · rw [hvars, hfn']; exact rfl
  · exact World.keptBut_mono (fun x hx => ⟨hx, .inr (.inl (by simpa using hx))⟩) (hbel.frame (· ∈ p ++ []))
end Go.Vm
