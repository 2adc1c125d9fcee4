import Derived.Test.YtafnpnopefamkaaVmBC
set_option linter.all false
namespace Go.Vm
variable {Γ : Nat → Option (List V)} {P : Program} {Sp : FuncId → List V → R → Prop} {σ : VS}

def Ex (F : (Eff → Prop) → Prop) (o : Option Eff) : Prop := ∀ e, o = some e → ∀ K : Eff → Prop, K e → F K
theorem Ex.want {α : Type} {x : Option α} {f : α → (Eff → Prop) → Prop} {g : α → Option Eff} (h : ∀ a, Ex (f a) (g a)) : Ex (fun K => wantO x fun a => f a K) (x.bind g) := fun e he K hK => by
  cases x with
  | none => cases he
  | some a => exact h a e he K hK
theorem Ex.need {c : Prop} [Decidable c] {F : (Eff → Prop) → Prop} {o : Option Eff} (h : Ex F o) : Ex (fun K => need c (F K)) (if c then o else none) := fun e he K hK => by
  by_cases hc : c
  · rw [if_pos hc] at he; exact ⟨hc, h e he K hK⟩
  · rw [if_neg hc] at he; cases he
theorem Ex.ret {e : Eff} : Ex (fun K => K e) (some e) := fun e' he K hK => by cases he; exact hK
theorem Ex.none {F : (Eff → Prop) → Prop} : Ex F none := fun e he => by cases he

end Go.Vm

namespace Go.Vm
variable {Γ : Nat → Option (List V)} {P : Program} {Sp : FuncId → List V → R → Prop} {σ : VS}

end Go.Vm

namespace Go.Vm
variable {Γ : Nat → Option (List V)} {P : Program} {Sp : FuncId → List V → R → Prop} {σ : VS}

inductive Tr' (α : Type) where
  | nil
  | node (v : Option α) (l r : Tr' α)
namespace Tr'
variable {α β : Type}
def get : Tr' α → Nat → Option α
  | nil, _ => none
  | node v l r, t => if t = 0 then v else if t % 2 = 1 then l.get (t / 2) else r.get (t / 2 - 1)
def ins : Nat → Tr' α → Nat → α → Tr' α
  | 0, m, _, _ => m
  | n + 1, nil, t, a => if t = 0 then node (some a) nil nil else if t % 2 = 1 then node none (ins n nil (t / 2) a) nil else node none nil (ins n nil (t / 2 - 1) a)
  | n + 1, node v l r, t, a => if t = 0 then node (some a) l r else if t % 2 = 1 then node v (ins n l (t / 2) a) r else node v l (ins n r (t / 2 - 1) a)
def keep (f : α → α) : Tr' Unit → Tr' α → Tr' α
  | node u a b, node v l r => node (if u.isSome then v.map f else none) (keep f a l) (keep f b r)
  | _, _ => nil
def map (f : α → β) : Tr' α → Tr' β
  | nil => nil
  | node v l r => node (v.map f) (map f l) (map f r)
def all (p : α → Bool) : Tr' α → Bool
  | nil => true
  | node v l r => (match v with | some a => p a | none => true) && all p l && all p r
theorem all_get {p : α → Bool} : ∀ {m : Tr' α}, all p m = true → ∀ t a, m.get t = some a → p a = true
  | nil, _, t, a, h => by simp [get] at h
  | node v l r, hp, t, a, h => by
    simp only [all, Bool.and_eq_true] at hp
    simp only [get] at h
    by_cases h0 : t = 0
    · rw [if_pos h0] at h; subst h; exact hp.1.1
    · rw [if_neg h0] at h
      by_cases h1 : t % 2 = 1
      · rw [if_pos h1] at h; exact all_get hp.1.2 _ _ h
      · rw [if_neg h1] at h; exact all_get hp.2 _ _ h
def toL : Tr' α → List α
  | nil => []
  | node v l r => (match v with | some a => [a] | none => []) ++ toL l ++ toL r
end Tr'

structure Ob where
  b : M
  a : M
  f : M
  c : Tr' L
structure XS where
  gs : Tr' L
  mem : Tr' Ob
  y : M
  vv : Tr' L
def noOb : Ob := ⟨.none, .none, .none, .nil⟩
def XS.ob (X : XS) (t : Nat) : Ob := (X.mem.get t).getD noOb
def mc (x : Option L) : M := match x with | some l => .cell l | none => .none
def XS.vs (X : XS) : VS where
  get := fun t => (X.gs.get t).getD .dead
  mem := fun k => match k with
    | .b t => (X.ob t).b
    | .a t => (X.ob t).a
    | .f t => (X.ob t).f
    | .c t j => mc ((X.ob t).c.get j)
    | .y => X.y
    | .v t => mc (X.vv.get t)
def small (t : Nat) : Bool := decide (t + 2 ≤ 16777216)
def XS.setOb (X : XS) (t : Nat) (o : Ob) : XS := { X with mem := X.mem.ins 24 t o }
def XS.upd1 (X : XS) (k : Key) (m : M) : Option XS :=
  match k, m with
  | .b t, m => if small t = true then some (X.setOb t { X.ob t with b := m }) else none
  | .a t, m => if small t = true then some (X.setOb t { X.ob t with a := m }) else none
  | .f t, m => if small t = true then some (X.setOb t { X.ob t with f := m }) else none
  | .c t j, .cell l => if small t = true ∧ small j = true then some (X.setOb t { X.ob t with c := (X.ob t).c.ins 24 j l }) else none
  | .y, m => some { X with y := m }
  | _, _ => none
def XS.upd (X : XS) : List (Key × M) → Option XS
  | [] => some X
  | (k, m) :: r => (X.upd r).bind fun X1 => X1.upd1 k m
def XS.put (X : XS) (d : Nat) (l : L) : Option XS := if small d = true then some { X with gs := X.gs.ins 24 d l } else none
def XS.apply (X : XS) (d : Option Nat) (e : Eff) : Option XS :=
  (X.upd e.wr).bind fun X1 => match d with | some d => X1.put d e.val | none => some X1
def XS.okL (X : XS) (ko : Tr' Unit) : L → L
  | .own t j => match ko.get t, (X.ob t).b with
    | some _, .box n => if j < n then .own t j else .dead
    | _, _ => .dead
  | .arr t g => match ko.get t, (X.ob t).a with
    | some _, .arr g' _ _ _ => if g = g' then .arr t g else .dead
    | _, _ => .dead
  | .p v => .p v
  | .nilS => .nilS
  | .e0 => .e0
  | .bsl t => match ko.get t, (X.ob t).b with
    | some _, .box _ => .bsl t
    | _, _ => .dead
  | _ => .dead
def cellsB (c : Tr' L) : Nat → Bool
  | 0 => true
  | n + 1 => (c.get n).isSome && cellsB c n
def okOb (o : Ob) : Bool := match o.b with | .box n => isNone o.a && cellsB o.c n | _ => true
def XS.gc (X : XS) (ks ko : Tr' Unit) (vk : Bool) : Option XS :=
  if X.mem.all okOb = true then some { gs := Tr'.keep (X.okL ko) ks X.gs, mem := Tr'.keep (fun o => { o with c := o.c.map (X.okL ko) }) ko X.mem, y := X.y, vv := if vk then X.vv.map (X.okL ko) else .nil } else none
end Go.Vm

namespace Go.Vm
variable {Γ : Nat → Option (List V)} {P : Program} {σ : VS}

def refs (l : L) : List Nat := match l with | .own t _ => [t] | .arr t _ => [t] | .bsl t => [t] | _ => []
def XS.puts : List (Nat × V) → XS → Option XS
  | [], X => some X
  | (t, v) :: r, X => (X.put t (.p v)).bind fun X1 => XS.puts r X1
end Go.Vm

namespace Go.Vm
variable {Γ : Nat → Option (List V)} {P : Program} {σ : VS}

abbrev YL := List (Nat × List V)
inductive YC where
  | y (l : Nat) (vs : List V)
  | f (g : FuncId) (args : List V)
def sameY : M → M → Bool
  | .cnt i, .cnt j => i == j
  | .stop, .stop => true
  | _, _ => false
theorem sameY_eq : ∀ {a b : M}, sameY a b = true → a = b := by
  intro a b h
  cases a <;> cases b <;> simp [sameY] at h ⊢
  exact h

def Yr (l i0 : Nat) (ys : List (List V)) (X : XS) (r : YL) : Prop := (∃ j, X.y = .cnt (i0 + j) ∧ j ≤ ys.length ∧ r = (ys.drop j).map fun z => (l, z)) ∨ (X.y = .stop ∧ r = [])
theorem Yr.same {l i0 : Nat} {ys : List (List V)} {X X' : XS} {r : YL} (h : Yr l i0 ys X r) (e : sameY X'.y X.y = true) : Yr l i0 ys X' r := by
  unfold Yr at h ⊢
  rw [sameY_eq e]; exact h
theorem Yr.cnt {l i0 i : Nat} {ys : List (List V)} {X : XS} {zs r2 : YL} (h : Yr l i0 ys X (zs ++ r2)) (hi : X.y = .cnt i) : ∃ j, i = i0 + j ∧ j + zs.length ≤ ys.length ∧ zs = ((ys.drop j).take zs.length).map (fun z => (l, z)) ∧ r2 = (ys.drop (j + zs.length)).map fun z => (l, z) := by
  rcases h with ⟨j, h1, h2, h3⟩ | ⟨h1, _⟩
  · rw [hi] at h1
    cases h1
    have hl := congrArg List.length h3
    simp only [List.length_append, List.length_map, List.length_drop] at hl
    refine ⟨j, rfl, by omega, ?_, ?_⟩
    · have := congrArg (List.take zs.length) h3
      rw [List.take_left, ← List.map_take] at this
      exact this
    · have := congrArg (List.drop zs.length) h3
      rw [List.drop_left, ← List.map_drop, List.drop_drop] at this
      exact this
  · rw [hi] at h1; cases h1

def leaves : Exit → Bool
  | .normal => true
  | .ret => true
  | _ => false
theorem Yr.fin {l i0 : Nat} {ys : List (List V)} {X : XS} (h : Yr l i0 ys X []) : X.vs.mem .y = .cnt (i0 + ys.length) ∨ X.vs.mem .y = .stop := by
  rcases h with ⟨j, h1, h2, h3⟩ | ⟨h1, _⟩
  · have := congrArg List.length h3
    simp only [List.length_nil, List.length_map, List.length_drop] at this
    rw [show ys.length = j by omega]
    exact .inl h1
  · exact .inr h1
end Go.Vm

namespace Go.Vm
def winΓ (Γ : Nat → Option (List V)) : Nat → Option (List V) := fun g => if g = 1000000 then some [] else Γ g
theorem winΓ_some {Γ : Nat → Option (List V)} {St : Nat → Nat → Prop} {w : World} (h : ∀ g cs, Γ g = some cs → repA St (rdW w) cs g 0) : ∀ g cs, winΓ Γ g = some cs → repA St (rdW w) cs g 0 := by
  intro g cs hg
  unfold winΓ at hg
  split at hg
  · cases hg; simp only [repA]
  · exact h g cs hg
theorem spec_win {P : Program} {Γ : Nat → Option (List V)} {f : FuncId} {args : List V} {r : R} (hs : Spec P (winΓ Γ) f args r) : Spec P Γ f args r :=
  ⟨hs.1, fun St w vs h1 h2 h3 => hs.2.1 St w vs h1 (winΓ_some h2) h3, fun pre e es xs post a b c St w v1 v2 u h1 h2 => hs.2.2.1 pre e es xs post a b c St w v1 v2 u h1 (winΓ_some h2), fun pre post a b c St w v1 v2 h1 h2 => hs.2.2.2 pre post a b c St w v1 v2 h1 (winΓ_some h2)⟩
end Go.Vm

namespace Go.Vm
variable {Γ : Nat → Option (List V)} {P : Program} {Sp : FuncId → List V → R → Prop} {σ : VS}
theorem call_vn {K : Eff → Prop} {d g : Nat} {vs as : List V} {post : List L} {q : R} {l : L} {wr : List (Key × M)} {rd : List Key} {fz : List Nat} (hs : Sp g as q) (hq : pubWith (pub1 σ) post = some ⟨vs, rd, fz⟩) (ho : noOwn vs = true) (hvs : nilV :: vs = as) (hL : q.toL d = (l, wr)) (hfr : sitesOk σ fz wr = true) (hK : K ⟨l, sitesRd wr ++ rd, wr ++ frzs fz⟩) : vcallF Sp σ (some d) (.p (.fn g [] [])) (.nilS :: post) K := by
  refine .inr (.inr ⟨[], post, rfl, ?_⟩)
  have hp : pubWith (pub1 σ) [] = some ⟨[], [], []⟩ := rfl
  simp only [hp, hq, wantO_some, need, List.nil_append]
  subst hvs
  exact ⟨⟨rfl, ho⟩, _, hs, by rw [hL]; exact hfr, by rw [hL]; exact hK⟩
variable {K : VS → Prop} {ops : Array Oper} {r : List Oper} {tr : List Tr} {t0 : TypeId} {p : String} {af : Array Edge}
theorem s_calln {d g : Nat} {f : Operand} {args : List Operand} {ats : Array TypeId} {vs as : List V} {post : List L} {q : R} {l : L} {wr : List (Key × M)} {rd : List Key} {fz : List Nat} (hs : Sp g as q) (hf : σ.ev Γ f = .p (.fn g [] [])) (ha : args.map (σ.ev Γ) = .nilS :: post) (hq : pubWith (pub1 σ) post = some ⟨vs, rd, fz⟩) (ho : noOwn vs = true) (hvs : nilV :: vs = as) (hL : q.toL d = (l, wr)) (hfr : sitesOk σ fz wr = true) (hK : vops P Γ Sp ops r (σ.apply (some d) (⟨l, sitesRd wr ++ rd, wr ++ frzs fz⟩ : Eff)) K) : vops P Γ Sp ops (⟨some d, .call ⟨.value f, args.toArray, ats⟩, t0, p, af, none⟩ :: r) σ K := by
  rw [vops_cons, vop_call, hf, ha]
  exact call_vn hs hq ho hvs hL hfr hK
theorem s_cap {d : Option Nat} {x : Operand} {t : TypeId} : vops P Γ Sp ops (⟨d, (.call ⟨.builtin .cap, [x].toArray, [t].toArray⟩), t0, p, af, none⟩ :: r) σ K = need ((elq P t).isSome = true ∧ (match σ.ev Γ x with | .nilS => True | _ => False)) (vops P Γ Sp ops r (σ.apply d ⟨.p (.n 0), [], []⟩) K) := Eq.trans rfl rfl
theorem winM_t : winM (winΓ Γ) = true := Eq.trans rfl rfl
theorem vsl_t {t : TypeId} {x : L} {lo hi mx : Option L} {K : Eff → Prop} : vsl true P σ t x lo hi mx K = vsliceW P σ t x lo hi mx K := Eq.trans rfl rfl
theorem fil_0 : isFil (some (.p (.i .i64 0))) = true := Eq.trans rfl rfl
theorem spec_nil_arr {f : FuncId} {post : List V} {e : TypeId} {es : Nat} (h0 : 0 < es) (h : Spec P Γ f (nilV :: post) (.one (.c .nilS))) : Spec P Γ f (nilV :: post) (.one (.c (.arr e es []))) := by
  refine ⟨h.1, fun St w vs _ _ hT => (repT_nilV (pre := []) hT).elim, fun pre' e' es' xs' post' ha k1 k2 => ?_, fun pre post' ha k1 k2 St w v1 v2 h1 h2 h3 h4 => ?_⟩
  · obtain ⟨_, ho, _⟩ : True ∧ False ∧ True := by
      cases pre' with
      | nil => simp [oV, nilV] at ha
      | cons x p =>
        simp only [List.cons_append, List.cons.injEq] at ha
        rw [← ha.1] at k1; simp [noOwn, nilV, V.isO] at k1
    exact ho.elim
  · refine (h.2.2.2 pre post' ha k1 k2 St w v1 v2 h1 h2 h3 h4).mono ?_
    rintro en w' ⟨v, St', bl, he, m1, m2, m3, m4, m5, m6⟩
    refine ⟨v, St', bl, he, m1, m2, m3, m4, m5, ?_⟩
    simp only [repR, repR1, repRC] at m6 ⊢
    obtain ⟨rfl, rfl⟩ := m6
    exact ⟨h0, ⟨[], ownsRow_nil _ _ _, repEs_nil⟩, rfl, fun b hb => by cases hb⟩
end Go.Vm
