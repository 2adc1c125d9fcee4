import Derived.Test.YtmebdgliiickfaaVmS
import Derived.OrdersIn
import Derived.TacticsIn
set_option linter.all false
/- Regions: in text order, and in whatever order is drawn. -/
namespace Go.Vm
variable {Γ : Nat → Option (List V)} {X : Ctx} {N : Nat} {ds : List Deferred} {σ σ' : VS} {a : Act} {w w' : World} {G G' : GG} {St St' : Nat → Nat → Prop} {own : Nat → Prop} {P : Program} {K : Eff → Prop} {Sp : FuncId → List V → R → Prop} {ops : Array Oper}

/-- A value hangs on nothing but what is given. -/
def Det (F : (Eff → Prop) → Prop) : Prop := ∀ K, F K → ∃ e, K e ∧ ∀ K' : Eff → Prop, K' e → F K'
theorem vpart_det {t : TypeId} {l : L} {off : Nat} : Det (fun K => vpart P t l off K) := fun K h => by
  simp only [vpart] at h
  obtain ⟨n, hn, h⟩ := wantO_iff.1 h
  obtain ⟨ag, hag, h⟩ := wantO_iff.1 h
  split at h
  · obtain ⟨cs, hcs, h⟩ := wantO_iff.1 h
    obtain ⟨v, hv, hK⟩ := wantO_iff.1 h
    exact ⟨_, hK, fun K' k => by simp only [vpart, hn, hag, wantO_some, hcs, hv]; exact k⟩
  · obtain ⟨h1, h⟩ := need_iff.1 h
    obtain ⟨v, hv, hK⟩ := wantO_iff.1 h
    exact ⟨_, hK, fun K' k => by simp only [vpart, hn, hag, wantO_some, hv]; exact need_iff.2 ⟨h1, k⟩⟩
  · exact h.elim
theorem vindex_arr {t : TypeId} {x : L} {k : IntKind} {n : Int} (hx : ∀ s, x ≠ .p (.s s)) : vindex P t x (.p (.i k n)) K = wantO (arq P t) fun (len, e) => wantO (szq P e) fun es => need (0 ≤ n ∧ n < len) (vpart P e x (n.toNat * es) K) := by
  cases x with
  | p v =>
    cases v with
    | s s => exact (hx s rfl).elim
    | _ => rfl
  | _ => rfl
theorem vindex_det {t : TypeId} {x i : L} : Det (fun K => vindex P t x i K) := fun K h => by
  by_cases hi : ∃ k n, i = .p (.i k n)
  · obtain ⟨k, n, rfl⟩ := hi
    by_cases hx : ∃ s, x = .p (.s s)
    · obtain ⟨s, rfl⟩ := hx
      simp only [vindex] at h
      obtain ⟨h1, hK⟩ := need_iff.1 h
      exact ⟨_, hK, fun K' k => by simp only [vindex]; exact need_iff.2 ⟨h1, k⟩⟩
    · have hx : ∀ s, x ≠ .p (.s s) := fun s e => hx ⟨s, e⟩
      simp only [vindex_arr hx] at h ⊢
      obtain ⟨⟨len, e⟩, he, h2⟩ := wantO_iff.1 h
      obtain ⟨es, hes, h3⟩ := wantO_iff.1 h2
      obtain ⟨h1, h4⟩ := need_iff.1 h3
      obtain ⟨ef, hK, hd⟩ := vpart_det _ h4
      exact ⟨ef, hK, fun K' k => by simp only [he, hes, wantO_some]; exact need_iff.2 ⟨h1, hd _ k⟩⟩
  · exfalso
    unfold vindex at h
    split at h
    · exact hi ⟨_, _, rfl⟩
    · exact hi ⟨_, _, rfl⟩
    · exact h
theorem vun_det {op : UnOp} {x : L} : Det (fun K => vun op x K) := fun K h => by
  unfold vun at h
  split at h
  · exact ⟨_, h, fun K' k => k⟩
  · exact ⟨_, h, fun K' k => k⟩
  · exact h.elim
theorem vextract_det {x : L} {i : Nat} : Det (fun K => vextract x i K) := fun K h => by
  unfold vextract at h
  split at h
  · obtain ⟨l, hl, hK⟩ := wantO_iff.1 h
    exact ⟨_, hK, fun K' k => by unfold vextract; simp only [hl, wantO_some]; exact k⟩
  · exact h.elim
theorem vminmax_det {mx : Bool} {ls : List L} : Det (fun K => vminmax mx ls K) := fun K h => by
  unfold vminmax at h
  split at h
  · obtain ⟨l, hl, hK⟩ := wantO_iff.1 h
    exact ⟨_, hK, fun K' k => by unfold vminmax; simp only [hl, wantO_some]; exact k⟩
  · exact h.elim
theorem vconv_det {s d : TypeId} {x : L} : Det (fun K => vconv P s d x K) := fun K h => by
  unfold vconv at h
  split at h
  · rename_i h1 h2
    exact ⟨_, h, fun K' k => by unfold vconv; rw [h1, h2]; exact k⟩
  · exact h.elim
theorem vfield_det {t : TypeId} {x : L} {f : Nat} : Det (fun K => vfield P t x f K) := fun K h => by
  unfold vfield at h
  obtain ⟨⟨e, off, n⟩, he, h⟩ := wantO_iff.1 h
  obtain ⟨ef, hK, hd⟩ := vpart_det _ h
  exact ⟨ef, hK, fun K' k => by show vfield P t x f K'; unfold vfield; rw [he, wantO_some]; exact hd _ k⟩

def sees (op : Op) : List Tmp := op.operands.toList.filterMap fun | .tmp t => some t | _ => none
theorem ev_loc {x : Operand} {l : List Operand} (hx : x ∈ l) (h : ∀ t ∈ l.filterMap (fun | .tmp t => some t | _ => none), σ'.get t = σ.get t) : σ'.ev Γ x = σ.ev Γ x := by
  cases x with
  | tmp t => exact h t (List.mem_filterMap.2 ⟨_, hx, rfl⟩)
  | _ => rfl

theorem vop_loc {dst : Option Nat} {op : Op} (h : vop P Γ Sp σ dst op K) : ∃ e, K e ∧ ∀ σ', (∀ t ∈ sees op, σ'.get t = σ.get t) → Same σ σ' e.rd → ∀ K' : Eff → Prop, K' e → vop P Γ Sp σ' dst op K' := by
  have tolst : ∀ {o : Option Operand} {σ' : VS}, (∀ x, o = some x → σ'.ev Γ x = σ.ev Γ x) → o.map (σ'.ev Γ) = o.map (σ.ev Γ) := fun {o} {σ'} h => by
    cases o with
    | none => rfl
    | some x => simp [h x rfl]
  have lst : ∀ {l : List Operand} {σ' : VS}, (∀ x ∈ l, σ'.ev Γ x = σ.ev Γ x) → l.map (σ'.ev Γ) = l.map (σ.ev Γ) := fun h => List.map_congr_left h
  unfold vop at h
  split at h
  · exact ⟨_, h, fun σ' ht hs K' k => by unfold vop; simp only; rw [ev_loc (by simp [Op.operands]) ht]; exact k⟩
  · exact ⟨_, h, fun σ' ht hs K' k => by unfold vop; simp only; rw [ev_loc (by simp [Op.operands]) ht]; exact k⟩
  · rename_i c x y
    unfold vbool at h
    split at h
    · rename_i b hb
      cases b with
      | true => exact ⟨_, h.1 rfl, fun σ' ht hs K' k => by unfold vop; simp only; rw [ev_loc (x := c) (by simp [Op.operands]) ht, ev_loc (x := x) (by simp [Op.operands]) ht, hb, vbool_true]; exact k⟩
      | false => exact ⟨_, h.2 rfl, fun σ' ht hs K' k => by unfold vop; simp only; rw [ev_loc (x := c) (by simp [Op.operands]) ht, ev_loc (x := y) (by simp [Op.operands]) ht, hb, vbool_false]; exact k⟩
    · exact h.elim
  · obtain ⟨d, rfl, h2⟩ := wantO_iff.1 h
    obtain ⟨ls, hl, h3⟩ := wantO_iff.1 h2
    obtain ⟨e, hK, hd⟩ := newBox_loc _ h3
    exact ⟨e, hK, fun σ' ht hs K' k => by unfold vop; simp only [wantO_some, hl]; exact hd σ' hs K' k⟩
  · obtain ⟨d, rfl, h2⟩ := wantO_iff.1 h
    obtain ⟨e, hK, hd⟩ := newBox_loc _ h2
    exact ⟨e, hK, fun σ' ht hs K' k => by unfold vop; simp only [wantO_some]; rw [ev_loc (by simp [Op.operands]) ht]; exact hd σ' hs K' k⟩
  · rename_i t ps
    obtain ⟨z, hz, h⟩ := wantO_iff.1 h
    obtain ⟨pl, hp, h⟩ := wantO_iff.1 h
    obtain ⟨ls, hl, h⟩ := wantO_iff.1 h
    obtain ⟨h1, hK⟩ := need_iff.1 h
    refine ⟨_, hK, fun σ' ht hs K' k => ?_⟩
    have hm : ∀ x ∈ ps.toList, σ'.ev Γ x.2 = σ.ev Γ x.2 := fun x hx => ev_loc (l := (Op.build t ps).operands.toList) (by simp only [Op.operands, List.toList_toArray]; exact List.mem_map.2 ⟨x, hx, rfl⟩) ht
    have e1 : (ps.toList.map fun x => (x.1, (σ'.ev Γ x.2).cells)) = ps.toList.map fun x => (x.1, (σ.ev Γ x.2).cells) := List.map_congr_left fun x hx => by rw [hm x hx]
    have e2 : (ps.toList.all fun x => (σ'.ev Γ x.2).cells.all L.isCell) = true := by
      rw [List.all_eq_true] at h1 ⊢
      intro x hx; rw [hm x hx]; exact h1 x hx
    unfold vop
    simp only [hz, hp, wantO_some, e1, hl]
    exact need_iff.2 ⟨e2, k⟩
  · rename_i t n ps
    obtain ⟨d, rfl, h2⟩ := wantO_iff.1 h
    obtain ⟨e, hK, hd⟩ := vbuildSlice_loc _ h2
    refine ⟨e, hK, fun σ' ht hs K' k => ?_⟩
    have hm : ∀ x ∈ ps.toList, σ'.ev Γ x.2 = σ.ev Γ x.2 := fun x hx => ev_loc (l := (Op.buildSlice t n ps).operands.toList) (by simp only [Op.operands, List.toList_toArray]; exact List.mem_map.2 ⟨x, hx, rfl⟩) ht
    have e1 : (ps.toList.map fun x => σ'.ev Γ x.2) = ps.toList.map fun x => σ.ev Γ x.2 := List.map_congr_left fun x hx => hm x hx
    unfold vop
    simp only [wantO_some, e1]
    exact hd σ' hs K' k
  · rename_i t x
    obtain ⟨e, hK, hd⟩ := vload_loc _ h
    exact ⟨e, hK, fun σ' ht hs K' k => by unfold vop; simp only; rw [ev_loc (by simp [Op.operands]) ht]; exact hd σ' hs K' k⟩
  · rename_i t x y
    obtain ⟨e, hK, hd⟩ := vstore_loc _ h
    exact ⟨e, hK, fun σ' ht hs K' k => by unfold vop; simp only; rw [ev_loc (x := x) (by simp [Op.operands]) ht, ev_loc (x := y) (by simp [Op.operands]) ht]; exact hd σ' hs K' k⟩
  · rename_i op t x y t2
    obtain ⟨e, hK, hd⟩ := vbin_loc _ h
    exact ⟨e, hK, fun σ' ht hs K' k => by unfold vop; simp only; rw [ev_loc (x := x) (by simp [Op.operands]) ht, ev_loc (x := y) (by simp [Op.operands]) ht]; exact hd σ' hs K' k⟩
  · obtain ⟨e, hK, hd⟩ := vun_det _ h
    exact ⟨e, hK, fun σ' ht hs K' k => by unfold vop; simp only; rw [ev_loc (by simp [Op.operands]) ht]; exact hd K' k⟩
  · obtain ⟨e, hK, hd⟩ := vconv_det _ h
    exact ⟨e, hK, fun σ' ht hs K' k => by unfold vop; simp only; rw [ev_loc (by simp [Op.operands]) ht]; exact hd K' k⟩
  · rename_i f first caps
    obtain ⟨e, hK, hd⟩ := vmakeFunc_loc _ h
    refine ⟨e, hK, fun σ' ht hs K' k => ?_⟩
    unfold vop
    simp only
    rw [lst (l := first.toList) (σ' := σ') fun x hx => ev_loc (by simp only [Op.operands, Array.toList_append]; exact List.mem_append_left _ hx) ht, lst (l := caps.toList) (σ' := σ') fun x hx => ev_loc (by simp only [Op.operands, Array.toList_append]; exact List.mem_append_right _ hx) ht]
    exact hd σ' hs K' k
  · rename_i t x y
    obtain ⟨d, rfl, h2⟩ := wantO_iff.1 h
    obtain ⟨e, hK, hd⟩ := vmakeSlice_loc _ h2
    exact ⟨e, hK, fun σ' ht hs K' k => by unfold vop; simp only [wantO_some]; rw [ev_loc (x := x) (by simp [Op.operands]) ht, ev_loc (x := y) (by simp [Op.operands]) ht]; exact hd σ' hs K' k⟩
  · rename_i t x lo hi mx
    obtain ⟨e, hK, hd⟩ := vslice_loc _ h
    refine ⟨e, hK, fun σ' ht hs K' k => ?_⟩
    unfold vop
    simp only
    rw [ev_loc (x := x) (by simp [Op.operands]) ht, tolst (o := lo) (σ' := σ') fun x hx => ev_loc (by subst hx; simp [Op.operands]) ht, tolst (o := hi) (σ' := σ') fun x hx => ev_loc (by subst hx; simp [Op.operands]) ht, tolst (o := mx) (σ' := σ') fun x hx => ev_loc (by subst hx; simp [Op.operands]) ht]
    exact hd σ' hs K' k
  · obtain ⟨e, hK, hd⟩ := vfieldAddr_loc _ h
    exact ⟨e, hK, fun σ' ht hs K' k => by unfold vop; simp only; rw [ev_loc (by simp [Op.operands]) ht]; exact hd σ' hs K' k⟩
  · obtain ⟨e, hK, hd⟩ := vfield_det _ h
    exact ⟨e, hK, fun σ' ht hs K' k => by unfold vop; simp only; rw [ev_loc (by simp [Op.operands]) ht]; exact hd K' k⟩
  · rename_i t x y
    obtain ⟨e, hK, hd⟩ := vindexAddr_loc _ h
    exact ⟨e, hK, fun σ' ht hs K' k => by unfold vop; simp only; rw [ev_loc (x := x) (by simp [Op.operands]) ht, ev_loc (x := y) (by simp [Op.operands]) ht]; exact hd σ' hs K' k⟩
  · rename_i t x y
    obtain ⟨e, hK, hd⟩ := vindex_det _ h
    exact ⟨e, hK, fun σ' ht hs K' k => by unfold vop; simp only; rw [ev_loc (x := x) (by simp [Op.operands]) ht, ev_loc (x := y) (by simp [Op.operands]) ht]; exact hd K' k⟩
  · obtain ⟨e, hK, hd⟩ := vextract_det _ h
    exact ⟨e, hK, fun σ' ht hs K' k => by unfold vop; simp only; rw [ev_loc (by simp [Op.operands]) ht]; exact hd K' k⟩
  · rename_i f args ats
    obtain ⟨e, hK, hd⟩ := vcallF_loc _ h
    refine ⟨e, hK, fun σ' ht hs K' k => ?_⟩
    unfold vop
    simp only
    rw [ev_loc (x := f) (by simp [Op.operands, Call.operands]) ht, lst (l := args.toList) (σ' := σ') fun x hx => ev_loc (by simp only [Op.operands, Call.operands, Array.toList_append]; exact List.mem_append_right _ hx) ht]
    exact hd σ' hs K' k
  · rename_i b args ats
    have ha : ∀ {σ' : VS}, (∀ t ∈ sees (.call ⟨.builtin b, args, ats⟩), σ'.get t = σ.get t) → ∀ x ∈ args.toList, σ'.ev Γ x = σ.ev Γ x := fun ht x hx => ev_loc (by simp only [Op.operands, Call.operands, Array.toList_append]; exact List.mem_append_right _ hx) ht
    generalize sees (.call ⟨.builtin b, args, ats⟩) = S at ha ⊢
    have go : ∀ (al : List Operand) (tl : List TypeId), (∀ {σ' : VS}, (∀ t ∈ S, σ'.get t = σ.get t) → ∀ x ∈ al, σ'.ev Γ x = σ.ev Γ x) → vbuiltin P Γ σ dst b al tl K → ∃ e, K e ∧ ∀ σ', (∀ t ∈ S, σ'.get t = σ.get t) → Same σ σ' e.rd → ∀ K' : Eff → Prop, K' e → vbuiltin P Γ σ' dst b al tl K' := by
      intro al tl ha h
      unfold vbuiltin at h
      split at h
      · obtain ⟨e, hK, hd⟩ := vlen_loc _ h
        exact ⟨e, hK, fun σ' ht hs K' k => by unfold vbuiltin; simp only; rw [ha ht _ (by simp)]; exact hd σ' hs K' k⟩
      · obtain ⟨e, hK, hd⟩ := vminmax_det _ h
        exact ⟨e, hK, fun σ' ht hs K' k => by unfold vbuiltin; simp only; rw [lst (ha ht)]; exact hd K' k⟩
      · obtain ⟨e, hK, hd⟩ := vminmax_det _ h
        exact ⟨e, hK, fun σ' ht hs K' k => by unfold vbuiltin; simp only; rw [lst (ha ht)]; exact hd K' k⟩
      · rename_i s x ts tx _
        obtain ⟨d, rfl, h2⟩ := wantO_iff.1 h
        obtain ⟨h1, h3⟩ := need_iff.1 h2
        obtain ⟨e, hK, hd⟩ := vappend_loc _ h3
        exact ⟨e, hK, fun σ' ht hs K' k => by unfold vbuiltin; simp only [wantO_some]; rw [ha ht s (by simp), ha ht x (by simp)]; exact need_iff.2 ⟨h1, hd σ' hs K' k⟩⟩
      · exact h.elim
    exact go _ _ ha h
  · exact h.elim
end Go.Vm
