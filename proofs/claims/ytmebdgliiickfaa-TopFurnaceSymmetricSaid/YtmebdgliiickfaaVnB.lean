import Derived.Test.YtmebdgliiickfaaVnA
import Derived.Below
import Derived.ChangeSame
set_option linter.all false
/- From a contract to a statement: it returns true, and its arguments read as before. -/
namespace Go.Vm
open Go.ChangeShapes Go.WideShapes Go.RowKit
variable {H : Type} {enc : TypeId × Value → H} {P : Program} {W W' : World}

theorem cell_spotless {r : Reach} {base : Nat} {t : TypeId} {v : Value} (h : Cell.okWide P W r base t v) : spotless v := by
  intro a len cap e
  subst e
  unfold Cell.okWide at h
  split at h
  all_goals first
    | (rename_i e; cases e; done)
    | (unfold Cell.ok at h
       split at h
       all_goals first
         | exact h.elim
         | (rename_i e; cases e; done)
         | (rename_i e; cases e; exact h.2.2.2.1)
         | skip)
  all_goals simp_all
theorem ok_spotless {r : Reach} {base : Nat} {t : TypeId} {v : Value} (h : Value.okWide P W r base t v) : ∀ c ∈ v.cells.toList, spotless c := by
  unfold Value.okWide at h
  split at h
  · obtain ⟨cs, rfl, _, ts, _, _, h⟩ := h
    intro c hc
    obtain ⟨i, hi⟩ := List.mem_iff_getElem?.1 hc
    obtain ⟨u, _, hu⟩ := h i c (by simpa [Value.cells] using hi)
    exact cell_spotless hu
  · obtain ⟨cs, rfl, _, ts, _, _, h⟩ := h
    intro c hc
    obtain ⟨i, hi⟩ := List.mem_iff_getElem?.1 hc
    obtain ⟨u, _, hu⟩ := h i c (by simpa [Value.cells] using hi)
    exact cell_spotless hu
  · have hs := cell_spotless h
    intro c hc
    cases v with
    | agg cs =>
      exfalso
      unfold Cell.okWide at h
      split at h <;> simp_all [Cell.ok]
    | _ => simp [Value.cells] at hc; subst hc; exact hs

def valAll : List Sh → List V → Prop
  | [], [] => True
  | s :: ss, x :: xs => valE s x ∧ valAll ss xs
  | _, _ => False
def shqAll (P : Program) : List Sh → List TypeId → Bool
  | [], [] => true
  | s :: ss, t :: ts => shq P s t && shqAll P ss ts
  | _, _ => false

theorem arg_rep {s : Sh} {base : Nat} {t : TypeId} {v : Value} {d : DataW H} {ps : List MemPlace} (hq : shq P s t = true) (hval : Value.okWide P W .any base t v) (h : DataW.Trod enc P W 0 (fun _ => true) true t v d ps) :
    ∃ x, valE s x ∧ rep (stW W) (rdW W) x v := by
  obtain ⟨fuel, hf⟩ := h
  obtain ⟨x, h1, h2, h3⟩ := trodE s hq (.inr (ok_spotless hval)) hf
  refine ⟨x, h1, h2, ?_⟩
  rw [h3]
  unfold Value.okWide at hval
  cases s with
  | st fs =>
    simp only [shq] at hq
    split at hq
    · rename_i fields ht
      rw [ht] at hval
      obtain ⟨cs, rfl, _⟩ := hval
      rfl
    · cases hq
  | _ =>
    simp only [shq] at hq
    split at hq
    · rename_i ht
      rw [ht] at hval
      simp only at hval
      cases v with
      | agg cs => unfold Cell.okWide at hval; rw [ht] at hval; simp [Cell.ok, ht] at hval
      | _ => rfl
    · cases hq

theorem args_rep : ∀ {shs : List Sh} {ts : List TypeId} {vs : List Value} {ds : List (DataW H)} {ps : List MemPlace} {base : Nat}, shqAll P shs ts = true → DataW.TrodAll enc P W 0 (fun _ => true) true ts vs ds ps →
    (∀ (j : Nat) (t : TypeId) (v : Value), ts[j]? = some t → vs[j]? = some v → Value.okWide P W .any base t v) → ∃ xs, valAll shs xs ∧ repT (stW W) (rdW W) xs vs
  | [], [], [], [], ps, base, _, _, _ => ⟨[], trivial, by simp only [repT]⟩
  | s :: ss, t :: ts, v :: vs, d :: ds, ps, base, hq, h, hval => by
    simp only [shqAll, Bool.and_eq_true] at hq
    obtain ⟨p, q, h1, h2, _⟩ := h
    obtain ⟨x, x1, x2⟩ := arg_rep hq.1 (hval 0 t v rfl rfl) h1
    obtain ⟨xs, y1, y2⟩ := args_rep hq.2 h2 fun j t v ht hv => hval (j + 1) t v (by simpa using ht) (by simpa using hv)
    exact ⟨x :: xs, ⟨x1, y1⟩, by simp only [repT]; exact ⟨v, vs, rfl, x2, y2⟩⟩
  | [], _ :: _, _, _, _, _, hq, _, _ => by simp [shqAll] at hq
  | _ :: _, [], _, _, _, _, hq, _, _ => by simp [shqAll] at hq
  | [], [], _ :: _, _, _, _, _, h, _ => h.elim
  | [], [], [], _ :: _, _, _, _, h, _ => h.elim
  | _ :: _, _ :: _, [], _, _, _, _, h, _ => h.elim
  | _ :: _, _ :: _, _ :: _, [], _, _, _, h, _ => h.elim

theorem args_stay (hl : laidOutB P = true) {sp : Nat → Bool} (hb : Below W.heap.size W W') : ∀ {ts : List TypeId} {vs : List Value} {ds : List (DataW H)} {ps : List MemPlace}, (ts.all fun t => P.readableRec t && decide (t < P.types.size)) = true →
    DataW.TrodAll enc P W 0 (fun _ => true) true ts vs ds ps → (∀ p ∈ ps, p.block < W.heap.size) → (∀ p ∈ ps, sp p.block = true) → DataW.TrodAll enc P W' 0 sp true ts vs ds ps
  | [], [], [], ps, _, h, _, _ => h
  | t :: ts, v :: vs, d :: ds, ps, hr, h, hlt, hs => by
    simp only [List.all_cons, Bool.and_eq_true, decide_eq_true_eq] at hr
    obtain ⟨p, q, h1, h2, rfl⟩ := h
    exact ⟨p, q, WideElems.Trod_stays hl hr.1.1 hr.1.2 h1 (fun x hx => hb.same (hlt x (List.mem_append_left _ hx))) (fun x hx => hs x (List.mem_append_left _ hx)),
      args_stay hl hb hr.2 h2 (fun x hx => hlt x (List.mem_append_right _ hx)) (fun x hx => hs x (List.mem_append_right _ hx)), rfl⟩
  | [], _ :: _, _, _, _, h, _, _ => h.elim
  | [], [], _ :: _, _, _, h, _, _ => h.elim
  | _ :: _, [], _, _, _, h, _, _ => h.elim
  | _ :: _, _ :: _, [], _, _, h, _, _ => h.elim

/-- A STATEMENT: for all values that its parameters' types let, its contract says true. -/
theorem law_calls {f : FuncId} {fn : Func} {s : ChangeSpec} {apart fresh handsOn : Bool} {base : Nat} {args : Array Value} {ds gs : List (DataW H)} {before : List MemPlace} {shs : List Sh} {tb : TypeId}
    (hl : laidOutB P = true) (hsh : shqAll P shs fn.params.toList = true) (hrd : (fn.params.toList.all fun t => P.readableRec t && decide (t < P.types.size)) = true)
    (hvars : s.vars = []) (hres : fn.resultTypes = #[tb]) (hbool : P.underlying tb = some .bool)
    (hfn : ∀ ds : List (DataW H), ds.length = fn.params.toList.length → s.fn H ds = { results := [.lit (.bool true)], args := ds })
    (hspec : ∀ xs, valAll shs xs → Spec P (fun _ => none) f xs (R.v (.b true)))
    (hval : ∀ (j : Nat) t v, fn.params[j]? = some t → args[j]? = some v → Value.okWide P W .any base t v)
    (hW : DataW.Whole enc P fn.params.toList s.vars apart W args.toList ds gs before) :
    Calls P f args W fun e W' => ∃ v, e = .returned v ∧ s.post enc P fn apart fresh handsOn false W args v W' := by
  have hlt : ∀ p ∈ before, p.block < W.heap.size := fun p hp => hW.lt p hp
  have hW0 := hW
  obtain ⟨p, q, hA, hV, rfl, hfz, hnd⟩ := hW
  rw [hvars] at hV
  obtain ⟨rfl, rfl⟩ := trodVars_none hV
  obtain ⟨xs, x1, x2⟩ := args_rep hsh hA fun j t v ht hv => hval j t v (by simpa using ht) (by simpa using hv)
  have hlen : ds.length = fn.params.toList.length := by
    have : ∀ {ts : List TypeId} {vs : List Value} {ds : List (DataW H)} {ps : List MemPlace}, DataW.TrodAll enc P W 0 (fun _ => true) true ts vs ds ps → ds.length = ts.length := by
      intro ts
      induction ts with
      | nil => intro vs ds ps h; cases vs <;> cases ds <;> simp_all [DataW.TrodAll]
      | cons t ts ih =>
        intro vs ds ps h
        cases vs with
        | nil => exact h.elim
        | cons v vs =>
          cases ds with
          | nil => exact h.elim
          | cons d ds => obtain ⟨p, q, _, h2, _⟩ := h; simp [ih h2]
    exact this hA
  have hc := (hspec xs x1).2 (stW W) W args.toList (fun _ _ h => h) (fun g cs h => by cases h) x2
  have ha : args.toList.toArray = args := by simp
  rw [ha] at hc
  refine hc.mono ?_
  rintro e W' ⟨v, St', bl, rfl, hbel, _, _, _, _, hr⟩
  simp only [R.v, repR, repR1, repRC, rep, repC] at hr
  have hv : v = .bool true := val_of_one hr.1.1 hr.1.2
  subst hv
  refine ⟨_, rfl, ?_⟩
  have hfn' := hfn (ds ++ []) (by simpa using hlen)
  refine ⟨ds, [], p ++ [], [], p, [], hW0, ?_, ?_, ?_, ?_, fun h => by cases h⟩
  · rw [hfn', hres]
    exact trodAll_mk1 (shut_bool hbool true)
  · rw [hfn', List.append_nil]
    exact args_stay hl hbel hrd hA (fun x hx => hlt x (List.mem_append_left _ hx)) fun x hx => by simpa using hlt x (List.mem_append_left _ hx)
  · rw [hvars, hfn']; exact rfl
  · exact World.keptBut_mono (fun x hx => ⟨hx, .inr (.inl (by simpa using hx))⟩) (hbel.frame (· ∈ p ++ []))
end Go.Vm
