import Derived.Test.YtmebdgliiickfaaVmX
set_option linter.all false
/- The rules by which a walk reckons. -/
namespace Go.Vm
variable {Γ : Nat → Option (List V)} {P : Program} {Sp : FuncId → List V → R → Prop}
@[congr] theorem vcode_congr {c : Code} {Q : Exit → VS → Prop} {σ σ' : VS} (h : σ = σ') : vcode P Γ Sp c Q σ = vcode P Γ Sp c Q σ' := by rw [h]
@[congr] theorem vops_congr {ops : Array Oper} {l : List Oper} {K : VS → Prop} {σ σ' : VS} (h : σ = σ') : vops P Γ Sp ops l σ K = vops P Γ Sp ops l σ' K := by rw [h]
@[congr] theorem vopsD_congr {ops : Array Oper} {l : List Oper} {K : VS → Prop} {tr tr' : List Tr} {σ σ' : VS} (h : σ = σ') (h2 : tr = tr') : vopsD P Γ Sp ops l tr σ K = vopsD P Γ Sp ops l tr' σ' K := by rw [h, h2]
@[congr] theorem vstep_congr {ops : Array Oper} {o : Oper} {K : Eff → Prop} {σ σ' : VS} (h : σ = σ') : vstep P Γ Sp ops σ o K = vstep P Γ Sp ops σ' o K := by rw [h]
@[congr] theorem vop_congr {d : Option Nat} {op : Op} {K : Eff → Prop} {σ σ' : VS} (h : σ = σ') : vop P Γ Sp σ d op K = vop P Γ Sp σ' d op K := by rw [h]
@[congr] theorem thenV_congr {e e' : Exit} {K : VS → Prop} {Q : Exit → VS → Prop} {σ σ' : VS} (h : e = e') (h2 : σ = σ') : thenV K Q e σ = thenV K Q e' σ' := by rw [h, h2]
@[congr] theorem blockV_congr {e e' : Exit} {id : Nat} {Q : Exit → VS → Prop} {σ σ' : VS} (h : e = e') (h2 : σ = σ') : blockV id Q e σ = blockV id Q e' σ' := by rw [h, h2]

theorem of_get {gs : List (Nat × L)} {ms : List (Key × M)} {t : Nat} : (VS.of gs ms).get t = lookG t gs := Eq.trans rfl rfl
theorem of_mem {gs : List (Nat × L)} {ms : List (Key × M)} {k : Key} : (VS.of gs ms).mem k = look k .none ms := Eq.trans rfl rfl
theorem look_app {k : Key} {m : M} : ∀ {a b : List (Key × M)}, look k m (a ++ b) = look k (look k m b) a
  | [], _ => rfl
  | (k', v) :: r, b => by simp only [List.cons_append, look, look_app]
theorem of_apply {gs : List (Nat × L)} {ms : List (Key × M)} {d : Nat} {e : Eff} : (VS.of gs ms).apply (some d) e = VS.of ((d, e.val) :: gs) (e.wr ++ ms) := by
  refine VS.same (fun t => ?_) (fun k => ?_)
  · rw [apply_get]; simp only [of_get, lookG, Option.some.injEq, eq_comm]
  · rw [apply_mem]; simp only [of_mem, look_app]
theorem of_apply0 {gs : List (Nat × L)} {ms : List (Key × M)} {e : Eff} : (VS.of gs ms).apply none e = VS.of gs (e.wr ++ ms) := by
  refine VS.same (fun t => ?_) (fun k => ?_)
  · rw [apply_get]; simp only [of_get, reduceCtorEq, if_false]
  · rw [apply_mem]; simp only [of_mem, look_app]
theorem lookG_eq {t : Nat} {l : L} {r : List (Nat × L)} : lookG t ((t, l) :: r) = l := by simp [lookG]
theorem look_eq {k : Key} {m v : M} {r : List (Key × M)} : look k m ((k, v) :: r) = v := by simp [look]
theorem lookG_cons {t t' : Nat} {l : L} {r : List (Nat × L)} : lookG t ((t', l) :: r) = if t = t' then l else lookG t r := Eq.trans rfl rfl
theorem look_cons {k k' : Key} {m v : M} {r : List (Key × M)} : look k m ((k', v) :: r) = if k = k' then v else look k m r := Eq.trans rfl rfl
theorem ev_tmp {σ : VS} {t : Nat} : σ.ev Γ (.tmp t) = σ.get t := Eq.trans rfl rfl
theorem ev_int {σ : VS} {k : IntKind} {n : Int} : σ.ev Γ (.const (.int k n)) = .p (.i k n) := Eq.trans rfl rfl
theorem ev_bool {σ : VS} {b : Bool} : σ.ev Γ (.const (.bool b)) = .p (.b b) := Eq.trans rfl rfl
theorem ev_str {σ : VS} {s : ByteArray} : σ.ev Γ (.const (.string s)) = .p (.s s) := Eq.trans rfl rfl
theorem ev_nilS {σ : VS} : σ.ev Γ (.const (.slice none 0 0)) = .nilS := Eq.trans rfl rfl
theorem ev_nilP {σ : VS} : σ.ev Γ (.const (.pointer none)) = .p .nilPtr := Eq.trans rfl rfl
theorem ev_nilF {σ : VS} : σ.ev Γ (.const .nilFunc) = .p .nilFn := Eq.trans rfl rfl
theorem ev_nilI {σ : VS} : σ.ev Γ (.const .nilIface) = .p .nilI := Eq.trans rfl rfl
theorem ev_func {σ : VS} {f : FuncId} : σ.ev Γ (.func f) = .p (.fn f [] []) := Eq.trans rfl rfl

theorem vcode_seq {x y : Code} {Q : Exit → VS → Prop} {σ : VS} : vcode P Γ Sp (.seq x y) Q σ = vcode P Γ Sp x (thenV (fun σ => vsay (vcode P Γ Sp y Q) σ) Q) σ := Eq.trans rfl rfl
theorem vcode_skip {Q : Exit → VS → Prop} {σ : VS} : vcode P Γ Sp .skip Q σ = Q .normal σ := Eq.trans rfl rfl
theorem vcode_exit {id : Nat} {Q : Exit → VS → Prop} {σ : VS} : vcode P Γ Sp (.exit id) Q σ = Q (.exit id) σ := Eq.trans rfl rfl
theorem vcode_ret {Q : Exit → VS → Prop} {σ : VS} : vcode P Γ Sp .ret Q σ = Q .ret σ := Eq.trans rfl rfl
theorem vcode_block {id : Nat} {c : Code} {Q : Exit → VS → Prop} {σ : VS} : vcode P Γ Sp (.block id c) Q σ = vcode P Γ Sp c (blockV id Q) σ := Eq.trans rfl rfl
theorem vcode_reg {id : Nat} {l : List Oper} {Q : Exit → VS → Prop} {σ : VS} : vcode P Γ Sp (.region id l.toArray false) Q σ = vops P Γ Sp l.toArray l σ (Q .normal) := Eq.trans rfl rfl
theorem vcode_draw {id : Nat} {l : List Oper} {Q : Exit → VS → Prop} {σ : VS} : vcode P Γ Sp (.region id l.toArray true) Q σ = vopsD P Γ Sp l.toArray l [] σ (Q .normal) := Eq.trans rfl rfl
theorem vcode_if {c : Operand} {x y : Code} {Q : Exit → VS → Prop} {σ : VS} (b : Bool) (hc : σ.ev Γ c = .p (.b b)) (h1 : b = true → vcode P Γ Sp x Q σ) (h2 : b = false → vcode P Γ Sp y Q σ) : vcode P Γ Sp (.cond c x y) Q σ := by
  show vbool _ _ _
  rw [hc]; exact ⟨h1, h2⟩
theorem vcode_then {c : Operand} {x y : Code} {Q : Exit → VS → Prop} {σ : VS} (hc : σ.ev Γ c = .p (.b true)) (h1 : vcode P Γ Sp x Q σ) : vcode P Γ Sp (.cond c x y) Q σ := vcode_if true hc (fun _ => h1) (fun h => by cases h)
theorem vcode_else {c : Operand} {x y : Code} {Q : Exit → VS → Prop} {σ : VS} (hc : σ.ev Γ c = .p (.b false)) (h1 : vcode P Γ Sp y Q σ) : vcode P Γ Sp (.cond c x y) Q σ := vcode_if false hc (fun h => by cases h) (fun _ => h1)
theorem thenV_n {K : VS → Prop} {Q : Exit → VS → Prop} {σ : VS} : thenV K Q .normal σ = K σ := Eq.trans rfl rfl
theorem thenV_e {K : VS → Prop} {Q : Exit → VS → Prop} {id : Nat} {σ : VS} : thenV K Q (.exit id) σ = Q (.exit id) σ := Eq.trans rfl rfl
theorem thenV_r {K : VS → Prop} {Q : Exit → VS → Prop} {σ : VS} : thenV K Q .ret σ = Q .ret σ := Eq.trans rfl rfl
theorem blockV_n {id : Nat} {Q : Exit → VS → Prop} {σ : VS} : blockV id Q .normal σ = Q .normal σ := Eq.trans rfl rfl
theorem blockV_r {id : Nat} {Q : Exit → VS → Prop} {σ : VS} : blockV id Q .ret σ = Q .ret σ := Eq.trans rfl rfl
theorem blockV_e {id id' : Nat} {Q : Exit → VS → Prop} {σ : VS} : blockV id Q (.exit id') σ = if id' = id then Q .normal σ else Q (.exit id') σ := Eq.trans rfl rfl
theorem vops_nil {ops : Array Oper} {K : VS → Prop} {σ : VS} : vops P Γ Sp ops [] σ K = K σ := Eq.trans rfl rfl
theorem vopsD_nil {ops : Array Oper} {K : VS → Prop} {σ : VS} {tr : List Tr} : vopsD P Γ Sp ops [] tr σ K = need (indepOk ops tr.reverse = true) (K σ) := Eq.trans rfl rfl
theorem vops_cons {ops : Array Oper} {K : VS → Prop} {σ : VS} {d : Option Tmp} {op : Op} {t : TypeId} {p : String} {af : Array Edge} {r : List Oper} :
    vops P Γ Sp ops (⟨d, op, t, p, af, none⟩ :: r) σ K = vop P Γ Sp σ d op fun e => vops P Γ Sp ops r (σ.apply d e) K := Eq.trans rfl rfl
theorem vopsD_cons {ops : Array Oper} {K : VS → Prop} {σ : VS} {d : Option Tmp} {op : Op} {t : TypeId} {p : String} {af : Array Edge} {r : List Oper} {tr : List Tr} :
    vopsD P Γ Sp ops (⟨d, op, t, p, af, none⟩ :: r) tr σ K = vop P Γ Sp σ d op fun e => vopsD P Γ Sp ops r (e.tr :: tr) (σ.apply d e) K := Eq.trans rfl rfl
theorem vops_guard {ops : Array Oper} {K : VS → Prop} {σ : VS} {d : Option Tmp} {op : Op} {t : TypeId} {p : String} {af : Array Edge} {r : List Oper} {j : Nat} {want : Bool} :
    vops P Γ Sp ops (⟨d, op, t, p, af, some (j, want)⟩ :: r) σ K = wantO (gdst ops j) fun g => vguard (σ.get g) want (vop P Γ Sp σ d op fun e => vops P Γ Sp ops r (σ.apply d e) K) (vops P Γ Sp ops r (σ.apply d noEff) K) := Eq.trans rfl rfl
theorem vopsD_guard {ops : Array Oper} {K : VS → Prop} {σ : VS} {d : Option Tmp} {op : Op} {t : TypeId} {p : String} {af : Array Edge} {r : List Oper} {tr : List Tr} {j : Nat} {want : Bool} :
    vopsD P Γ Sp ops (⟨d, op, t, p, af, some (j, want)⟩ :: r) tr σ K = wantO (gdst ops j) fun g => vguard (σ.get g) want (vop P Γ Sp σ d op fun e => vopsD P Γ Sp ops r (e.tr :: tr) (σ.apply d e) K) (vopsD P Γ Sp ops r (noEff.tr :: tr) (σ.apply d noEff) K) := Eq.trans rfl rfl
theorem vop_move {σ : VS} {d : Option Nat} {x : Operand} {K : Eff → Prop} : vop P Γ Sp σ d (.move x) K = K ⟨σ.ev Γ x, [], []⟩ := Eq.trans rfl rfl
theorem vop_assign {σ : VS} {d : Option Nat} {x : Operand} {K : Eff → Prop} : vop P Γ Sp σ d (.assign x) K = K ⟨σ.ev Γ x, [], []⟩ := Eq.trans rfl rfl
theorem vop_pick {σ : VS} {d : Option Nat} {c x y : Operand} {K : Eff → Prop} : vop P Γ Sp σ d (.pick c x y) K = vbool (σ.ev Γ c) (K ⟨σ.ev Γ x, [], []⟩) (K ⟨σ.ev Γ y, [], []⟩) := Eq.trans rfl rfl
theorem vop_alloc {σ : VS} {d : Nat} {t : TypeId} {K : Eff → Prop} : vop P Γ Sp σ (some d) (.alloc t) K = wantO (zeq P t) fun ls => newBox σ d ls K := Eq.trans rfl rfl
theorem vop_box {σ : VS} {d : Nat} {t : TypeId} {x : Operand} {K : Eff → Prop} : vop P Γ Sp σ (some d) (.box t x) K = newBox σ d (σ.ev Γ x).cells K := Eq.trans rfl rfl
theorem vop_build {σ : VS} {d : Option Nat} {t : TypeId} {ps : List (Nat × Operand)} {K : Eff → Prop} : vop P Γ Sp σ d (.build t ps.toArray) K = wantO (zeq P t) fun z => wantO (plq P t) fun pl => wantO (lfill pl z (ps.map fun x => (x.1, (σ.ev Γ x.2).cells))) fun ls => need ((ps.all fun x => (σ.ev Γ x.2).cells.all L.isCell) = true) (K ⟨mkAgg ls, [], []⟩) := Eq.trans rfl rfl
theorem vop_buildSlice {σ : VS} {d : Nat} {t : TypeId} {n : Nat} {ps : List (Nat × Operand)} {K : Eff → Prop} : vop P Γ Sp σ (some d) (.buildSlice t n ps.toArray) K = vbuildSlice P σ d t n (ps.map (·.1)) (ps.map fun x => σ.ev Γ x.2) K := Eq.trans rfl rfl
theorem vop_load {σ : VS} {d : Option Nat} {t : TypeId} {x : Operand} {K : Eff → Prop} : vop P Γ Sp σ d (.load t x) K = vload P σ t (σ.ev Γ x) K := Eq.trans rfl rfl
theorem vop_store {σ : VS} {d : Option Nat} {t : TypeId} {x y : Operand} {K : Eff → Prop} : vop P Γ Sp σ d (.store t x y) K = vstore P σ t (σ.ev Γ x) (σ.ev Γ y) K := Eq.trans rfl rfl
theorem vop_bin {σ : VS} {d : Option Nat} {o : BinOp} {t t2 : TypeId} {x y : Operand} {K : Eff → Prop} : vop P Γ Sp σ d (.binOp o t x y t2) K = vbin P t (Operand.isConst y) σ o (σ.ev Γ x) (σ.ev Γ y) K := Eq.trans rfl rfl
theorem vop_un {σ : VS} {d : Option Nat} {o : UnOp} {t : TypeId} {x : Operand} {K : Eff → Prop} : vop P Γ Sp σ d (.unOp o t x) K = vun o (σ.ev Γ x) K := Eq.trans rfl rfl
theorem vop_conv {σ : VS} {d : Option Nat} {t t2 : TypeId} {x : Operand} {K : Eff → Prop} : vop P Γ Sp σ d (.convert t t2 x) K = vconv P t t2 (σ.ev Γ x) K := Eq.trans rfl rfl
theorem vop_makeFunc {σ : VS} {d : Option Nat} {f : FuncId} {xs ys : List Operand} {K : Eff → Prop} : vop P Γ Sp σ d (.makeFunc (.func f) xs.toArray ys.toArray) K = vmakeFunc σ f (xs.map (σ.ev Γ)) (ys.map (σ.ev Γ)) K := Eq.trans rfl rfl
theorem vop_makeSlice {σ : VS} {d : Nat} {t : TypeId} {x y : Operand} {K : Eff → Prop} : vop P Γ Sp σ (some d) (.makeSlice t x y) K = vmakeSlice P σ d t (σ.ev Γ x) (σ.ev Γ y) K := Eq.trans rfl rfl
theorem vop_slice {σ : VS} {d : Option Nat} {t : TypeId} {x : Operand} {lo hi mx : Option Operand} {K : Eff → Prop} : vop P Γ Sp σ d (.slice t x lo hi mx) K = vslice P σ t (σ.ev Γ x) (lo.map (σ.ev Γ)) (hi.map (σ.ev Γ)) (mx.map (σ.ev Γ)) K := Eq.trans rfl rfl
theorem vop_fieldAddr {σ : VS} {d : Option Nat} {t : TypeId} {x : Operand} {f : Nat} {K : Eff → Prop} : vop P Γ Sp σ d (.fieldAddr t x f) K = vfieldAddr P σ t (σ.ev Γ x) f K := Eq.trans rfl rfl
theorem vop_field {σ : VS} {d : Option Nat} {t : TypeId} {x : Operand} {f : Nat} {K : Eff → Prop} : vop P Γ Sp σ d (.field t x f) K = vfield P t (σ.ev Γ x) f K := Eq.trans rfl rfl
theorem vop_indexAddr {σ : VS} {d : Option Nat} {t : TypeId} {x y : Operand} {K : Eff → Prop} : vop P Γ Sp σ d (.indexAddr t x y) K = vindexAddr P σ t (σ.ev Γ x) (σ.ev Γ y) K := Eq.trans rfl rfl
theorem vop_index {σ : VS} {d : Option Nat} {t : TypeId} {x y : Operand} {K : Eff → Prop} : vop P Γ Sp σ d (.index t x y) K = vindex P t (σ.ev Γ x) (σ.ev Γ y) K := Eq.trans rfl rfl
theorem vop_extract {σ : VS} {d : Option Nat} {x : Operand} {i : Nat} {K : Eff → Prop} : vop P Γ Sp σ d (.extract x i) K = vextract (σ.ev Γ x) i K := Eq.trans rfl rfl
theorem vop_call {σ : VS} {d : Option Nat} {f : Operand} {args : List Operand} {ats : Array TypeId} {K : Eff → Prop} : vop P Γ Sp σ d (.call ⟨.value f, args.toArray, ats⟩) K = vcallF Sp σ d (σ.ev Γ f) (args.map (σ.ev Γ)) K := Eq.trans rfl rfl
theorem vop_len {σ : VS} {d : Option Nat} {x : Operand} {t : TypeId} {K : Eff → Prop} : vop P Γ Sp σ d (.call ⟨.builtin .len, [x].toArray, [t].toArray⟩) K = vlen σ P t (σ.ev Γ x) K := Eq.trans rfl rfl
theorem vop_max {σ : VS} {d : Option Nat} {args : List Operand} {ats : Array TypeId} {K : Eff → Prop} : vop P Γ Sp σ d (.call ⟨.builtin .max, args.toArray, ats⟩) K = vminmax true (args.map (σ.ev Γ)) K := Eq.trans rfl rfl
theorem vop_min {σ : VS} {d : Option Nat} {args : List Operand} {ats : Array TypeId} {K : Eff → Prop} : vop P Γ Sp σ d (.call ⟨.builtin .min, args.toArray, ats⟩) K = vminmax false (args.map (σ.ev Γ)) K := Eq.trans rfl rfl
theorem vop_append {σ : VS} {d : Nat} {s x : Operand} {ts tx : TypeId} {K : Eff → Prop} : vop P Γ Sp σ (some d) (.call ⟨.builtin .append, [s, x].toArray, [ts, tx].toArray⟩) K = need (ts = tx) (vappend P σ d ts (σ.ev Γ s) (σ.ev Γ x) K) := Eq.trans rfl rfl
theorem vop_mono {σ : VS} {d : Option Nat} {op : Op} {K K' : Eff → Prop} (hk : ∀ e, K e → K' e) (h : vop P Γ Sp σ d op K) : vop P Γ Sp σ d op K' := by
  obtain ⟨e, h1, h2⟩ := vop_loc h
  exact h2 σ (fun _ _ => rfl) (fun _ _ => rfl) K' (hk e h1)
theorem vstep_mono {ops : Array Oper} {σ : VS} {o : Oper} {K K' : Eff → Prop} (hk : ∀ e, K e → K' e) (h : vstep P Γ Sp ops σ o K) : vstep P Γ Sp ops σ o K' := by
  obtain ⟨e, h1, h2⟩ := vstep_loc h
  exact h2 σ (fun _ _ => rfl) (fun _ _ => rfl) K' (hk e h1)
theorem vops_mono {ops : Array Oper} {K K' : VS → Prop} (hk : ∀ σ, K σ → K' σ) : ∀ {l : List Oper} {σ : VS}, vops P Γ Sp ops l σ K → vops P Γ Sp ops l σ K'
  | [], _, h => hk _ h
  | _ :: _, _, h => vstep_mono (fun _ h => vops_mono hk h) h
theorem vopsD_mono {ops : Array Oper} {K K' : VS → Prop} (hk : ∀ σ, K σ → K' σ) : ∀ {l : List Oper} {tr : List Tr} {σ : VS}, vopsD P Γ Sp ops l tr σ K → vopsD P Γ Sp ops l tr σ K'
  | [], _, _, h => ⟨h.1, hk _ h.2⟩
  | _ :: _, _, _, h => vstep_mono (fun _ h => vopsD_mono hk h) h
theorem thenV_mono {K K' : VS → Prop} {Q Q' : Exit → VS → Prop} (hk : ∀ σ, K σ → K' σ) (hq : ∀ e σ, Q e σ → Q' e σ) : ∀ e σ, thenV K Q e σ → thenV K' Q' e σ := fun e σ h => by
  cases e with
  | normal => exact hk _ h
  | _ => exact hq _ _ h
theorem vcode_mono : ∀ (c : Code) {Q Q' : Exit → VS → Prop} {σ : VS}, (∀ e σ, Q e σ → Q' e σ) → vcode P Γ Sp c Q σ → vcode P Γ Sp c Q' σ
  | .skip, _, _, _, hq, h => hq _ _ h
  | .region _ _ false, _, _, _, hq, h => vops_mono (hq _) h
  | .region _ _ true, _, _, _, hq, h => vopsD_mono (hq _) h
  | .seq x y, _, _, _, hq, h => vcode_mono x (thenV_mono (fun _ h => by
      rcases h with h | ⟨τ, hw, h⟩
      · exact .inl (vcode_mono y hq h)
      · exact .inr ⟨τ, hw, vcode_mono y hq h⟩) hq) h
  | .cond c x y, _, _, σ, hq, h => by
    simp only [vcode, vbool] at h ⊢
    split at h
    · exact ⟨fun e => vcode_mono x hq (h.1 e), fun e => vcode_mono y hq (h.2 e)⟩
    · exact h.elim
  | .block id c, Q, Q', _, hq, h => vcode_mono c (fun e σ h => by
      cases e with
      | exit id' =>
        simp only [blockV] at h ⊢
        by_cases he : id' = id
        · rw [if_pos he] at h ⊢; exact hq _ _ h
        · rw [if_neg he] at h ⊢; exact hq _ _ h
      | _ => exact hq _ _ h) h
  | .loop c, _, _, _, hq, h => by
    obtain ⟨I, n0, σ0, h1, h2, h3⟩ := h
    exact ⟨I, n0, σ0, h1, h2, fun n σ' hI => vcode_mono c (thenV_mono (fun _ h => h) hq) (h3 n σ' hI)⟩
  | .exit _, _, _, _, hq, h => hq _ _ h
  | .ret, _, _, _, hq, h => hq _ _ h
  | .rangeFunc .., _, _, _, _, h => h.elim
  | .scope _, _, _, _, _, h => h.elim
  | .label _, _, _, _, _, h => h.elim
  | .goto _, _, _, _, _, h => h.elim
  | .refuse _, _, _, _, _, h => h.elim
/-- A loop: 'gs' and 'ms' say by lists what holds at its head, 'm' goes down. -/
theorem vcode_loop {α : Type} (gs : α → List (Nat × L)) (ms : α → List (Key × M)) (Pr : α → Prop) (m : α → Nat) (x0 : α) {c : Code} {Q : Exit → VS → Prop} {σ : VS} (h0 : Pr x0) (hw : Wk σ (gs x0) (ms x0))
    (hr : ∀ x, Pr x → vcode P Γ Sp c (thenV (fun σ2 => ∃ y, Wk σ2 (gs y) (ms y) ∧ Pr y ∧ m y < m x) Q) (VS.of (gs x) (ms x))) : vcode P Γ Sp (.loop c) Q σ := by
  refine ⟨fun n σ' => ∃ x, Pr x ∧ m x = n ∧ σ' = VS.of (gs x) (ms x), m x0, _, hw.s, ⟨x0, h0, rfl, rfl⟩, ?_⟩
  rintro n σ' ⟨x, hx, rfl, rfl⟩
  refine vcode_mono c (fun e σ h => ?_) (hr x hx)
  cases e with
  | normal =>
    obtain ⟨y, h1, h2, h3⟩ := h
    exact ⟨m y, _, h1.s, ⟨y, h2, rfl, rfl⟩, h3⟩
  | _ => exact h
/-- Forget all but this, and go on. -/
theorem vcode_cut {α : Type} (gs : α → List (Nat × L)) (ms : α → List (Key × M)) (Pr : α → Prop) {x y : Code} {Q : Exit → VS → Prop} {σ : VS}
    (h2 : ∀ z, Pr z → vcode P Γ Sp y Q (VS.of (gs z) (ms z))) (h1 : vcode P Γ Sp x (thenV (fun σ => ∃ z, Wk σ (gs z) (ms z) ∧ Pr z) Q) σ) : vcode P Γ Sp (.seq x y) Q σ :=
  vcode_mono x (fun e σ h => by
    cases e with
    | normal =>
      obtain ⟨z, h1, h3⟩ := h
      exact .inr ⟨_, h1.s, h2 z h3⟩
    | _ => exact h) h1
theorem vsay_go {K : VS → Prop} {σ : VS} (h : K σ) : vsay K σ := .inl h
@[congr] theorem vsay_congr {K : VS → Prop} {σ σ' : VS} (h : σ = σ') : vsay K σ = vsay K σ' := by rw [h]
end Go.Vm
