import Derived.Test.YtmebdgliiickfaaVmQ
set_option linter.all false
/- One operation, whole: what the value machine says of it, the model does. -/
namespace Go.Vm
variable {Γ : Nat → Option (List V)} {X : Ctx} {N : Nat} {ds : List Deferred} {σ : VS} {a : Act} {w w' : World} {G G' : GG} {St St' : Nat → Nat → Prop} {own : Nat → Prop} {P : Program} {K : Eff → Prop} {Sp : FuncId → List V → R → Prop}

/-- A frame in a world is as the machine has it. -/
def Rp (Γ : Nat → Option (List V)) (X : Ctx) (N : Nat) (ds : List Deferred) (σ : VS) (a : Act) (w : World) : Prop := ∃ G St own, RepD Γ X N ds σ a w G St own

/-- No fence: only whether the frame is a round's. -/
def fr (ro : Option Nat) : Fence := { Fence.wide with round := ro }

def OpDone (P : Program) (Γ : Nat → Option (List V)) (X : Ctx) (N : Nat) (ds : List Deferred) (σ : VS) (a : Act) (w : World) (o : Oper) (K : Eff → Prop) : Prop :=
  ∃ e, K e ∧ ∀ (ro : Option Nat) (n : Nat) (next : Act → World → Prop) (Q : Exit → Act → World → Prop), (∀ a' w', Rp Γ X N ds (σ.apply o.dst e) a' w' → next a' w') → o.wpIn (fr ro) n P a w next Q

theorem OpDone.of_makes {o : Oper} {s : Sem Value} (hm : Makes P Γ X N ds σ a w s K) (hd : ∀ d, o.dst = some d → d < N) (hx : execOp a.eval o = (do pure (.value (← s)))) (hdf : ∀ c, o.op ≠ .defer c) : OpDone P Γ X N ds σ a w o K := by
  obtain ⟨e, u, w1, hK, hr, G', St', own', hR, hv⟩ := hm
  refine ⟨e, hK, fun ro n next Q hn => ⟨fun _ _ => trivial, ?_⟩⟩
  rw [Oper.semAt_eq _ _ _ hdf, hx, Sem.run_bind, hr]
  exact hn _ _ ⟨G', St', own', hR.putO hd hv⟩
theorem OpDone.of_gives {o : Oper} {s : Sem Value} (h : RepD Γ X N ds σ a w G St own) (hm : Gives P σ G St w s K) (hd : ∀ d, o.dst = some d → d < N) (hx : execOp a.eval o = (do pure (.value (← s)))) (hdf : ∀ c, o.op ≠ .defer c) : OpDone P Γ X N ds σ a w o K :=
  .of_makes (hm.makes h) hd hx hdf
theorem OpDone.of_val {o : Oper} (h : RepD Γ X N ds σ a w G St own) {l : L} {u : Value} {e : Eff} (hK : K e) (hw : e.wr = []) (hl : e.val = l) (hv : repLv σ.mem G St (rdW w) l u) (hd : ∀ d, o.dst = some d → d < N) (hx : (execOp a.eval o).run P w = .ok (.value u) w) (hdf : ∀ c, o.op ≠ .defer c) : OpDone P Γ X N ds σ a w o K := by
  refine ⟨e, hK, fun ro n next Q hn => ⟨fun _ _ => trivial, ?_⟩⟩
  rw [Oper.semAt_eq _ _ _ hdf, hx]
  have : (σ.apply o.dst e) = σ.putO o.dst l := by unfold VS.apply; rw [hw, hl]; rfl
  exact hn _ _ ⟨G, St, own, by rw [this]; exact h.putO hd hv⟩

theorem repRC_bl {B : Nat} {r : RC} {u : Value} {bl : List Nat} (h : repRC St w B r u bl) : ∀ b ∈ bl, B ≤ b ∧ b < w.heap.size := by
  cases r with
  | p v => simp only [repRC] at h; rw [h.2]; simp
  | nilS => simp only [repRC] at h; rw [h.2]; simp
  | arr e es xs => simp only [repRC] at h; exact fun b hb => ⟨(h.2.2.2 b hb).1, (h.2.2.2 b hb).2.1⟩
theorem repRCs_bl {B : Nat} : ∀ {rs : List RC} {us : List Value} {bl : List Nat}, repRCs St w B rs us bl → ∀ b ∈ bl, B ≤ b ∧ b < w.heap.size
  | [], us, bl, h => by simp only [repRCs] at h; rw [h.2]; simp
  | r :: rs, us, bl, h => by
    simp only [repRCs] at h
    obtain ⟨v, vr, b1, b2, rfl, rfl, _, h1, h2⟩ := h
    intro b hb
    rcases List.mem_append.1 hb with hb | hb
    · exact repRC_bl h1 b hb
    · exact repRCs_bl h2 b hb
theorem repR1ubl {B : Nat} {r : R1} {u : Value} {bl : List Nat} (h : repR1 St w B r u bl) : ∀ b ∈ bl, B ≤ b ∧ b < w.heap.size := by
  cases r with
  | c r => exact repRC_bl h
  | agg rs => simp only [repR1] at h; obtain ⟨vs, _, h⟩ := h; exact repRCs_bl h
theorem repR1s_bl {B : Nat} : ∀ {rs : List R1} {us : List Value} {bl : List Nat}, repR1s St w B rs us bl → ∀ b ∈ bl, B ≤ b ∧ b < w.heap.size
  | [], us, bl, h => by simp only [repR1s] at h; rw [h.2]; simp
  | r :: rs, us, bl, h => by
    simp only [repR1s] at h
    obtain ⟨v, vr, b1, b2, rfl, rfl, h1, h2⟩ := h
    intro b hb
    rcases List.mem_append.1 hb with hb | hb
    · exact repR1ubl h1 b hb
    · exact repR1s_bl h2 b hb
theorem repR_bl {B : Nat} {r : R} {u : Value} {bl : List Nat} (h : repR St w B r u bl) : ∀ b ∈ bl, B ≤ b ∧ b < w.heap.size := by
  cases r with
  | one r => exact repR1ubl h
  | tup rs => simp only [repR] at h; obtain ⟨vs, _, h⟩ := h; exact repR1s_bl h

theorem rc_sites {d i : Nat} {r : RC} : ∀ j, i ≤ j → j < (r.toL d i).2.1 → ∃ m, (Key.a (siteN d j), m) ∈ (r.toL d i).2.2 := by
  cases r with
  | arr e es xs =>
    intro j h1 h2
    simp only [RC.toL] at h2 ⊢
    obtain rfl : j = i := by omega
    exact ⟨.arr 0 e es xs, by simp⟩
  | _ => intro j h1 h2; simp only [RC.toL] at h2; omega
theorem rcs_sites {d : Nat} : ∀ {rs : List RC} {i : Nat} (j : Nat), i ≤ j → j < (rcsToL d i rs).2.1 → ∃ m, (Key.a (siteN d j), m) ∈ (rcsToL d i rs).2.2
  | [], i, j, h1, h2 => by simp only [rcsToL] at h2; omega
  | r :: rs, i, j, h1, h2 => by
    simp only [rcsToL] at h2 ⊢
    by_cases h : j < (r.toL d i).2.1
    · obtain ⟨m, hm⟩ := rc_sites j h1 h; exact ⟨m, List.mem_append_right _ hm⟩
    · obtain ⟨m, hm⟩ := rcs_sites (rs := rs) j (by omega) h2; exact ⟨m, List.mem_append_left _ hm⟩
theorem r1usites {d i : Nat} {r : R1} : ∀ j, i ≤ j → j < (r.toL d i).2.1 → ∃ m, (Key.a (siteN d j), m) ∈ (r.toL d i).2.2 := by
  cases r with
  | c r => exact rc_sites
  | agg rs => exact rcs_sites
theorem r1s_sites {d : Nat} : ∀ {rs : List R1} {i : Nat} (j : Nat), i ≤ j → j < (r1sToL d i rs).2.1 → ∃ m, (Key.a (siteN d j), m) ∈ (r1sToL d i rs).2.2
  | [], i, j, h1, h2 => by simp only [r1sToL] at h2; omega
  | r :: rs, i, j, h1, h2 => by
    simp only [r1sToL] at h2 ⊢
    by_cases h : j < (r.toL d i).2.1
    · obtain ⟨m, hm⟩ := r1usites j h1 h; exact ⟨m, List.mem_append_right _ hm⟩
    · obtain ⟨m, hm⟩ := r1s_sites (rs := rs) j (by omega) h2; exact ⟨m, List.mem_append_left _ hm⟩
theorem r_sites {d : Nat} {r : R} : ∀ j, j < r.cnt d → ∃ m, (Key.a (siteN d j), m) ∈ (r.toL d).2 := by
  cases r with
  | one r => exact fun j h => r1usites j (Nat.zero_le _) h
  | tup rs => exact fun j h => r1s_sites j (Nat.zero_le _) h
theorem fresh_frzs {fz : List Nat} {t : Nat} (h : fresh σ t = true) : fresh (σ.upd (frzs fz)) t = true := by
  obtain ⟨f1, f2⟩ := fresh_iff.1 h
  exact fresh_iff.2 ⟨by rw [← f1]; exact look_frzs (by simp), by rw [← f2]; exact look_frzs (by simp)⟩

theorem RepD.call (hSp : ∀ f args r, Sp f args r → Spec P Γ f args r) (h : RepD Γ X N ds σ a w G St own) {o : Oper} {f : Operand} {args : Array Operand} {ats : Array TypeId} (ho : o.op = .call ⟨.value f, args, ats⟩) (hd : ∀ d, o.dst = some d → d < N)
    (hk : vcallF Sp σ o.dst (σ.ev Γ f) (args.toList.map (σ.ev Γ)) K) : OpDone P Γ X N ds σ a w o K := by
  unfold vcallF at hk
  split at hk
  · rename_i g first caps hf
    obtain ⟨q, hq, hk⟩ := wantO_iff.1 hk
    obtain ⟨r, hr, hk⟩ := hk
    have hfv := h.ev (Γ := Γ) f
    rw [hf] at hfv
    obtain ⟨p1, p2⟩ := pval hfv
    simp only [repC] at p1
    obtain ⟨a1, a2, e1, t1, t2⟩ := p1
    have efv := val_of_one e1 p2
    have hargs := h.evs (Γ := Γ) args.toList
    have hF := h.frz q.fz
    have hT := h.pubs hq hargs (fz := q.fz) fun _ h => h
    have up : ∀ b o, St b o → stF σ G St q.fz b o := fun _ _ h => .inl h
    have same : ∀ b o, St b o → rdW w b o = rdW w b o := fun _ _ _ => rfl
    have hall : repT (stF σ G St q.fz) (rdW w) (first ++ q.vs ++ caps) (a1.toList ++ args.toList.map a.eval ++ a2.toList) := by
      have app : ∀ {x y : List V} {l m : List Value}, repT (stF σ G St q.fz) (rdW w) x l → repT (stF σ G St q.fz) (rdW w) y m → repT (stF σ G St q.fz) (rdW w) (x ++ y) (l ++ m) := by
        intro x
        induction x with
        | nil => intro y l m h k; simp only [repT] at h; subst h; exact k
        | cons c cs ih =>
          intro y l m h k
          simp only [repT] at h
          obtain ⟨v, r, rfl, p, q⟩ := h
          simp only [List.cons_append, repT]
          exact ⟨v, r ++ m, rfl, p, ih q k⟩
      exact app (app (repT_mono up same _ _ t1) hT) (repT_mono up same _ _ t2)
    obtain ⟨hent, hspec⟩ := hSp _ _ _ hr
    have hcall := hspec _ w _ hF.stlt hF.glob hall
    have hrun : ∀ ro : Option Nat, (o.semAt ro a.eval).run P w = .ok (.enter g (a1 ++ (args.map a.eval) ++ a2)) w := fun ro => by
      rw [Oper.semAt_eq _ _ _ (by rw [ho]; simp)]
      obtain ⟨dst, op, ty, pos, af, gd⟩ := o
      simp only at ho
      subst ho
      simp only [execOp, resolve, efv, Deferred.ofValue, Sem.run_bind, Sem.run_pure, Result.andThen_ok, invoke]
      exact hent _ _
    have harr : (a1.toList ++ args.toList.map a.eval ++ a2.toList).toArray = a1 ++ (args.map a.eval) ++ a2 := by
      apply Array.toList_inj.1; simp
    rw [harr] at hcall
    -- the frame behind the call
    have behind : ∀ {d : Nat} {w'' : World} {v : Value} {St2 : Nat → Nat → Prop} {bl : List Nat}, RowKit.Below w.heap.size w w'' → (∀ b o, stF σ G St q.fz b o → St2 b o) → (∀ b o, St2 b o → stF σ G St q.fz b o ∨ w.heap.size ≤ b) → (∀ b o, St2 b o → b < w''.heap.size) → bl.Nodup → repR St2 w'' w.heap.size r v bl →
        (∀ j, j < r.cnt d → fresh (σ.upd (frzs q.fz)) (siteN d j) = true) → ∃ G2 own2, RepD Γ X N ds (σ.upd ((r.toL d).2 ++ frzs q.fz)) a w'' G2 St2 own2 ∧ repLv (σ.upd ((r.toL d).2 ++ frzs q.fz)).mem G2 St2 (rdW w'') (r.toL d).1 v := by
      intro d w'' v St2 bl hbel s1 s2 s3 hnd hrr hfr
      have h1 := hF.ext (Stp.of_below hbel)
      have hlt : ∀ t b, blkOf (σ.upd (frzs q.fz)).mem G t = some b → b < w.heap.size := fun t b hb => hF.blk_lt hb
      have h2 := h1.more s1 s2 hlt hF.blt s3
      have hbl : ∀ b ∈ bl, w.heap.size ≤ b ∧ b < w''.heap.size := repR_bl hrr
      obtain ⟨G2, k1, k2⟩ := h2.addR hrr hnd (fun b hb => ⟨.inr (hbl b hb), fun t ht => by have := hlt t b ht; have := (hbl b hb).1; omega⟩) hfr
      rw [upd_upd] at k1 k2
      exact ⟨G2, _, k1, k2⟩
    -- the operation
    have enter : ∀ (ro : Option Nat) (n : Nat) (next : Act → World → Prop) (Q : Exit → Act → World → Prop), (∀ (v : Value) (w'' : World) (St2 : Nat → Nat → Prop) (bl : List Nat), RowKit.Below w.heap.size w w'' → (∀ b o, stF σ G St q.fz b o → St2 b o) → (∀ b o, St2 b o → stF σ G St q.fz b o ∨ w.heap.size ≤ b) → (∀ b o, St2 b o → b < w''.heap.size) → bl.Nodup → repR St2 w'' w.heap.size r v bl → next (a.put o.dst v) w'') → o.wpIn (fr ro) n P a w next Q := by
      intro ro n next Q hn
      refine ⟨fun _ _ => trivial, ?_⟩
      show o.uponIn (fr ro) n P a next Q ((o.semAt ro a.eval).run P w)
      rw [hrun]
      refine ⟨fun h => by simp [fr, Fence.wide] at h, ?_⟩
      have hc : CallsIn Fence.wide (n - 1) P g (a1 ++ (args.map a.eval) ++ a2) w _ := callsIn_wide.2 hcall
      refine CallsIn.mono (F := fr ro) hc ?_
      rintro e w'' ⟨v, St2, bl, rfl, m1, m2, m3, m4, m5, m6⟩
      exact hn v w'' St2 bl m1 m2 m3 m4 m5 m6
    split at hk
    · rename_i d hdst
      obtain ⟨hall2, hK⟩ := need_iff.1 hk
      refine ⟨_, hK, fun ro n next Q hn => enter ro n next Q fun v w'' St2 bl m1 m2 m3 m4 m5 m6 => hn _ _ ?_⟩
      obtain ⟨G2, own2, k1, k2⟩ := behind (d := d) m1 m2 m3 m4 m5 m6 fun j hj => by
        obtain ⟨m, hm⟩ := r_sites j hj
        have := List.all_eq_true.1 hall2 _ hm
        simp only [Bool.and_eq_true] at this
        exact fresh_frzs this.1
      exact ⟨G2, St2, own2, k1.putO hd k2⟩
    · rename_i hdst
      obtain ⟨hnil, hK⟩ := need_iff.1 hk
      refine ⟨_, hK, fun ro n next Q hn => enter ro n next Q fun v w'' St2 bl m1 m2 m3 m4 m5 m6 => hn _ _ ?_⟩
      obtain ⟨G2, own2, k1, k2⟩ := behind (d := 0) m1 m2 m3 m4 m5 m6 fun j hj => by
        obtain ⟨m, hm⟩ := r_sites j hj
        rw [hnil] at hm; cases hm
      rw [hnil, List.nil_append] at k1 k2
      rw [hdst]
      exact ⟨G2, St2, own2, k1⟩
  · exact hk.elim

theorem evL (h : RepD Γ X N ds σ a w G St own) (o : Option Operand) : match o.map (σ.ev Γ), o.map a.eval with | none, none => True | some l, some u => repLv σ.mem G St (rdW w) l u | _, _ => False := by
  cases o with
  | none => trivial
  | some x => exact h.ev x

/-- EVERY OPERATION THAT THE MACHINE KNOWS. -/
theorem op_sound (hSp : ∀ f args r, Sp f args r → Spec P Γ f args r) (h : RepD Γ X N ds σ a w G St own) {o : Oper} (hd : ∀ d, o.dst = some d → d < N) (hk : vop P Γ Sp σ o.dst o.op K) : OpDone P Γ X N ds σ a w o K := by
  obtain ⟨dst, op, ty, pos, af, gd⟩ := o
  simp only at hd hk
  unfold vop at hk
  split at hk
  · exact .of_val h hk rfl rfl (h.ev _) hd rfl (by simp)
  · exact .of_val h hk rfl rfl (h.ev _) hd rfl (by simp)
  · rename_i c x y
    have hc := h.ev (Γ := Γ) c
    unfold vbool at hk
    split at hk
    · rename_i b hb
      rw [hb] at hc
      have hcb := pbool hc
      cases b with
      | true => exact .of_val h (hk.1 rfl) rfl rfl (h.ev _) hd (by simp [execOp, hcb, asBool]) (by simp)
      | false => exact .of_val h (hk.2 rfl) rfl rfl (h.ev _) hd (by simp [execOp, hcb, asBool]) (by simp)
    · exact hk.elim
  · obtain ⟨d, rfl, hk⟩ := wantO_iff.1 hk
    exact .of_makes (h.alloc hk) hd rfl (by simp)
  · obtain ⟨d, rfl, hk⟩ := wantO_iff.1 hk
    exact .of_makes (h.boxv (h.ev _) hk) hd rfl (by simp)
  · rename_i t ps
    refine .of_gives h (h.build (ps := ps.toList) hk) hd ?_ (by simp)
    simp only [execOp]
    congr 3
    apply Array.toList_inj.1; simp
  · rename_i t n ps
    obtain ⟨d, rfl, hk⟩ := wantO_iff.1 hk
    refine .of_makes (h.buildSl (ps := ps.toList) hk) hd ?_ (by simp)
    simp only [execOp]
    congr 3
    apply Array.toList_inj.1; simp
  · obtain ⟨e, u, hK, hw, hr, hv⟩ := h.load (h.ev _) hk
    exact .of_gives h ⟨e, u, hK, hw, hr, hv⟩ hd rfl (by simp)
  · obtain ⟨e, w1, hK, hval, hr, G', St', own', hR⟩ := h.store (h.ev _) (h.ev _) hk
    refine ⟨e, hK, fun ro n next Q hn => ⟨fun _ _ => trivial, ?_⟩⟩
    rw [Oper.semAt_eq _ _ _ (by simp)]
    simp only [execOp, Sem.run_bind, hr, Result.andThen_ok, Sem.run_pure]
    refine hn _ _ ⟨G', St', own', ?_⟩
    unfold VS.apply
    rw [hval]
    exact hR.putO hd (by simp [repLv])
  · exact .of_gives h (h.bin (h.ev _) (h.ev _) hk) hd rfl (by simp)
  · exact .of_gives h (RepD.un (h.ev _) hk) hd rfl (by simp)
  · exact .of_gives h (RepD.conv (h.ev _) hk) hd rfl (by simp)
  · rename_i f first caps
    have h1 := h.evs (Γ := Γ) first.toList
    have h2 := h.evs (Γ := Γ) caps.toList
    refine .of_makes (h.mkFunc h1 h2 hk) hd ?_ (by simp)
    simp only [execOp]
    congr 3
    all_goals (apply Array.toList_inj.1; simp)
  · obtain ⟨d, rfl, hk⟩ := wantO_iff.1 hk
    exact .of_makes (h.makeSl (h.ev _) (h.ev _) hk) hd rfl (by simp)
  · exact .of_makes (h.slc (h.ev _) (evL h _) (evL h _) (evL h _) hk) hd rfl (by simp)
  · exact .of_gives h (h.fieldAddr (h.ev _) hk) hd rfl (by simp)
  · exact .of_gives h (h.fieldv (h.ev _) hk) hd rfl (by simp)
  · exact .of_gives h (h.indexAddr (h.ev _) (h.ev _) hk) hd rfl (by simp)
  · exact .of_gives h (h.indexv (h.ev _) (h.ev _) hk) hd rfl (by simp)
  · exact .of_gives h (RepD.extr (h.ev _) hk) hd rfl (by simp)
  · exact h.call hSp rfl hd hk
  · rename_i b args ats
    have hA : args = args.toList.toArray := by simp
    have hT : ats = ats.toList.toArray := by simp
    generalize args.toList = al at hA hk
    generalize ats.toList = tl at hT hk
    subst hA hT
    unfold vbuiltin at hk
    split at hk
    · rename_i x t
      refine .of_gives (s := Builtin.len_ #[t] ty #[a.eval x]) h (h.len (h.ev _) hk) hd ?_ (by simp)
      have e : [x].toArray.map a.eval = #[a.eval x] := by simp
      simp only [execOp, resolve, invoke, builtin, e]
      rfl
    · have h1 := h.evs (Γ := Γ) al
      refine .of_gives (s := Builtin.max_ tl.toArray ty (al.map a.eval).toArray) h ?_ hd ?_ (by simp)
      · exact RepD.minmax (P := P) (ats := tl.toArray) (ty := ty) h1 hk
      · have e : al.toArray.map a.eval = (al.map a.eval).toArray := by simp
        simp only [execOp, resolve, invoke, builtin, e]
        rfl
    · have h1 := h.evs (Γ := Γ) al
      refine .of_gives (s := Builtin.min_ tl.toArray ty (al.map a.eval).toArray) h ?_ hd ?_ (by simp)
      · exact RepD.minmax (P := P) (ats := tl.toArray) (ty := ty) h1 hk
      · have e : al.toArray.map a.eval = (al.map a.eval).toArray := by simp
        simp only [execOp, resolve, invoke, builtin, e]
        rfl
    · rename_i s x ts tx
      obtain ⟨d, rfl, hk2⟩ := wantO_iff.1 hk
      obtain ⟨rfl, hk3⟩ := need_iff.1 hk2
      refine .of_makes (h.app (ty := ty) (h.ev _) (h.ev _) hk3) hd ?_ (by simp)
      have e : [s, x].toArray.map a.eval = #[a.eval s, a.eval x] := by simp
      simp only [execOp, resolve, invoke, builtin, e]
      rfl
    · exact hk.elim
  · exact hk.elim
end Go.Vm
