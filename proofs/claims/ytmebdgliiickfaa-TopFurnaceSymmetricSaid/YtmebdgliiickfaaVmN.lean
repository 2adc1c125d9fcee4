import Derived.Test.YtmebdgliiickfaaVmM
import Derived.Laws.MakeOwn
import Derived.Laws.AppendOwn
import Derived.Great.BuildSlice
set_option linter.all false
/- Each operation does in the model what the value machine says: arrays. -/
namespace Go.Vm
variable {Γ : Nat → Option (List V)} {X : Ctx} {N : Nat} {ds : List Deferred} {σ : VS} {a : Act} {w w' : World} {G G' : GG} {St St' : Nat → Nat → Prop} {own : Nat → Prop} {P : Program} {K : Eff → Prop}

theorem RepD.mkArr (h : RepD Γ X N ds σ a w G St own) {d : Nat} (hf : fresh σ d = true) {e : TypeId} {es cap : Nat} {xs : List V} {cells : Array Value} (h0 : 0 < es) (hc : xs.length ≤ cap) (hm : cap ≤ maxLen) (hs : cells.size = cap * es)
    (he : repEs St (rdW w) es xs (cells.toList.take (xs.length * es))) :
    ∃ G' own', RepD Γ X N ds (σ.upd [(.a d, .arr 0 e es xs), (.f d, .none)]) a (w.alloc (.cells cells e)) G' St own' ∧ repLv (σ.upd [(.a d, .arr 0 e es xs), (.f d, .none)]).mem G' St (rdW (w.alloc (.cells cells e))) (.arr d 0) (.slice (some ⟨w.heap.size, 0, none⟩) xs.length cap) := by
  have h' := h.ext (Stp.alloc (fun _ => False) w (.cells cells e))
  have hrd : ∀ b o, St b o → rdW (w.alloc (.cells cells e)) b o = rdW w b o := fun b o hb => rdW_of_block (RowKit.Below.heap_alloc w _ b (h.stlt b o hb))
  have hn := h'.newArr (d := d) hf (e := e) (es := es) (xs := xs) (v := .slice (some ⟨w.heap.size, 0, none⟩) xs.length cap) h0
    ⟨he.1, .inr ⟨w.heap.size, cap, cells, rfl, Nat.zero_le _, heap_alloc_new w _, hc, hm, hs, rfl⟩⟩
    (repEs_mono (fun _ _ h => h) hrd he)
    (fun b hb => by
      simp only [Value.ownBlock, Option.some.injEq] at hb
      subst hb
      exact ⟨.inr ⟨Nat.le_refl _, by simp⟩, fun t ht => by have := h.blk_lt ht; omega, fun o ho => by have := h.stlt _ o ho; omega⟩)
  refine ⟨_, _, hn, ?_⟩
  simp only [repLv]
  exact ⟨0, e, es, xs, by simp [VS.upd, look], Nat.le_refl _, rfl, fun _ => by simp⟩

theorem flat_get {es : Nat} : ∀ {vs : List Value}, (∀ v ∈ vs, v.cells.toList.length = es) → (vs.flatMap fun v => v.cells.toList).length = vs.length * es ∧ ∀ i v, vs[i]? = some v → ((vs.flatMap fun v => v.cells.toList).drop (i * es)).take es = v.cells.toList
  | [], _ => by simp
  | u :: vs, h => by
    obtain ⟨h1, h2⟩ := flat_get (vs := vs) fun v hv => h v (List.mem_cons_of_mem _ hv)
    have hu := h u (by simp)
    refine ⟨by simp only [List.flatMap_cons, List.length_append, List.length_cons, h1, hu, Nat.succ_mul]; omega, fun i v hi => ?_⟩
    simp only [List.flatMap_cons]
    cases i with
    | zero => simp only [List.getElem?_cons_zero, Option.some.injEq] at hi; subst hi; rw [Nat.zero_mul, List.drop_zero, List.take_left' hu]
    | succ i =>
      have : (i + 1) * es = u.cells.toList.length + i * es := by rw [hu, Nat.succ_mul]; omega
      rw [this, ← List.drop_drop, List.drop_left]
      exact h2 i v (by simpa using hi)

theorem fill_all {es : Nat} : ∀ {vs : List Value} {k : Nat} {cells : Array Value}, (∀ v ∈ vs, v.cells.toList.length = es) → (k + vs.length) * es ≤ cells.size →
    ∃ out : Array Value, Instr.fill (fun i => some (i * es, es)) cells ((vs.zipIdx k).map fun x => (x.2, x.1)) = some out ∧ out.toList = cells.toList.take (k * es) ++ (vs.flatMap fun v => v.cells.toList) ++ cells.toList.drop ((k + vs.length) * es)
  | [], k, cells, _, _ => ⟨cells, rfl, by simp⟩
  | v :: vs, k, cells, h, hs => by
    have hv := h v (by simp)
    have hks : (k + 1) * es + vs.length * es ≤ cells.size := by rw [← Nat.add_mul]; simp only [List.length_cons] at hs; rw [Nat.add_right_comm, Nat.add_assoc]; exact hs
    have hk1 : (k + 1) * es = k * es + es := by rw [Nat.succ_mul]
    obtain ⟨out, h1, h2⟩ := fill_all (vs := vs) (k := k + 1) (cells := (cells.toList.take (k * es) ++ v.cells.toList ++ cells.toList.drop (k * es + v.cells.toList.length)).toArray) (fun u hu => h u (List.mem_cons_of_mem _ hu)) (by simp only [List.size_toArray, List.length_append, List.length_take, List.length_drop, Array.length_toList, hv, Nat.add_mul] at hks ⊢; omega)
    refine ⟨out, ?_, ?_⟩
    · simp only [List.zipIdx_cons, List.map_cons]
      rw [fill_step (off := k * es) (n := es) rfl hv (by omega)]
      exact h1
    · rw [h2]
      have hl : (cells.toList.take (k * es) ++ v.cells.toList).length = (k + 1) * es := by simp only [List.length_append, List.length_take, Array.length_toList, hv]; omega
      simp only [List.flatMap_cons]
      rw [List.take_left' hl, ← List.append_assoc (cells.toList.take (k * es))]
      congr 1
      have e1 : (k + 1 + vs.length) * es = (cells.toList.take (k * es) ++ v.cells.toList).length + vs.length * es := by rw [hl, Nat.add_mul]
      rw [e1, ← List.drop_drop, List.drop_left, List.drop_drop]
      congr 1
      simp only [List.length_cons, hv, Nat.add_mul]; omega

theorem repT_get {rd : Nat → Nat → Option Value} : ∀ {xs : List V} {vs : List Value}, repT St rd xs vs → xs.length = vs.length ∧ ∀ (i : Nat) (x : V), xs[i]? = some x → ∃ v, vs[i]? = some v ∧ rep St rd x v
  | [], vs, h => by simp only [repT] at h; subst h; simp
  | x :: xs, vs, h => by
    simp only [repT] at h
    obtain ⟨v, r, rfl, h1, h2⟩ := h
    obtain ⟨p, q⟩ := repT_get h2
    refine ⟨by simp [p], fun i y hi => ?_⟩
    cases i with
    | zero => simp at hi; subst hi; exact ⟨v, rfl, h1⟩
    | succ i => obtain ⟨u, hu, hr⟩ := q i y (by simpa using hi); exact ⟨u, by simpa using hu, hr⟩

theorem repEs_flat {rd : Nat → Nat → Option Value} {es : Nat} {xs : List V} {vs : List Value} (h : repT St rd xs vs) (hes : ∀ y ∈ xs, y.cells.length = es) : repEs St rd es xs (vs.flatMap fun v => v.cells.toList) ∧ ∀ v ∈ vs, v.cells.toList.length = es := by
  obtain ⟨h1, h2⟩ := repT_get h
  have hv : ∀ v ∈ vs, v.cells.toList.length = es := fun v hv => by
    obtain ⟨i, hi⟩ := List.mem_iff_getElem?.1 hv
    have hil : i < xs.length := by rw [h1]; exact (List.getElem?_eq_some_iff.1 hi).1
    obtain ⟨u, hu, hr⟩ := h2 i xs[i] (by simp [hil])
    rw [hi] at hu; cases hu
    rw [repC_len _ _ hr.1]; exact hes _ (List.getElem_mem hil)
  obtain ⟨f1, f2⟩ := flat_get hv
  refine ⟨⟨by rw [f1, h1], fun i x hi => ?_⟩, hv⟩
  obtain ⟨u, hu, hr⟩ := h2 i x hi
  rw [f2 i u hu]; exact hr.1

theorem RepD.buildSl (h : RepD Γ X N ds σ a w G St own) {d : Nat} {t : TypeId} {n : Nat} {ps : List (Nat × Operand)} (hk : vbuildSlice P σ d t n (ps.map (·.1)) (ps.map fun x => σ.ev Γ x.2) K) :
    Makes P Γ X N ds σ a w (Instr.buildSlice t n ((ps.map fun x => (x.1, a.eval x.2)).toArray)) K := by
  unfold vbuildSlice at hk
  obtain ⟨e, he, hk⟩ := wantO_iff.1 hk
  obtain ⟨es, hes, hk⟩ := wantO_iff.1 hk
  obtain ⟨zz, hzz, hk⟩ := wantO_iff.1 hk
  obtain ⟨q, hq, hk⟩ := wantO_iff.1 hk
  obtain ⟨⟨k1, k2, k3, k4, k5, k6, k7⟩, hK⟩ := need_iff.1 hk
  have hls : repLs σ.mem G St (rdW w) (ps.map fun x => σ.ev Γ x.2) (ps.map fun x => a.eval x.2) := by
    have := h.evs (ps.map (·.2)); simpa [List.map_map, Function.comp_def] using this
  have hF := h.frz q.fz
  have hT := h.pubs hq hls (fz := q.fz) fun _ h => h
  obtain ⟨hE, hvl⟩ := repEs_flat hT k4
  have hn : (ps.map fun x => a.eval x.2).length = n := by simpa using k2
  have hqn : q.vs.length = n := by rw [(repT_get hT).1, hn]
  obtain ⟨ie, hie, hsz⟩ := szq_some hes
  subst hsz
  -- the parts, in the order of their numbers
  have hparts : (ps.map fun x => (x.1, a.eval x.2)) = ((ps.map fun x => a.eval x.2).zipIdx 0).map fun x => (x.2, x.1) := by
    apply List.ext_getElem?
    intro i
    have hi := congrArg (fun l : List Nat => l[i]?) k1
    simp only [List.getElem?_map, List.getElem?_zipIdx, Option.map_map] at hi ⊢
    cases hp : ps[i]? with
    | none => simp
    | some x =>
      have hin : i < n := by have := (List.getElem?_eq_some_iff.1 hp).1; simp at hn; omega
      rw [hp] at hi
      simp [hin] at hi
      simp [hi]
  have hf : fresh (σ.upd (frzs q.fz)) d = true := by
    obtain ⟨f1, f2⟩ := fresh_iff.1 k3
    exact fresh_iff.2 ⟨by rw [← f1]; exact look_frzs (by simp), by rw [← f2]; exact look_frzs (by simp)⟩
  have fin : ∀ cells : Array Value, cells.toList = ((ps.map fun x => a.eval x.2).flatMap fun v => v.cells.toList) → (Instr.buildSlice t n ((ps.map fun x => (x.1, a.eval x.2)).toArray)).run P w = .ok (.slice (some ⟨w.heap.size, 0, none⟩) n n) (w.alloc (.cells cells e)) →
      Makes P Γ X N ds σ a w (Instr.buildSlice t n ((ps.map fun x => (x.1, a.eval x.2)).toArray)) K := fun cells hcells hrun => by
    have hlen : cells.toList.length = n * ie.size := by rw [hcells, (flat_get hvl).1, hn]
    obtain ⟨G', own', hR, hv⟩ := hF.mkArr hf (e := e) (es := ie.size) (cap := n) (xs := q.vs) (cells := cells) k7 (by omega) (by have := Nat.le_mul_of_pos_right n k7; unfold maxLen; omega) (by simpa using hlen)
      (by rw [hqn, ← hlen, List.take_length, hcells]; exact hE)
    rw [upd_upd] at hR hv
    rw [hqn] at hv
    exact ⟨_, _, _, hK, hrun, _, _, _, hR, hv⟩
  have hil := Nat.le_mul_of_pos_right n k7
  by_cases h0 : n = 0
  · subst h0
    have hps : ps = [] := by cases ps <;> first | rfl | simp at hn
    subst hps
    exact fin #[] (by simp) (by simp [Instr.buildSlice, run_underlying (elq_some he), sizeOf, typeInfo, hie, Instr.fill, newRow]; rw [Array.eq_empty_of_size_eq_zero (xs := Array.map _ (Array.range 0)) (by simp)])
  · obtain ⟨i, z, g1, g2, _⟩ := zeq_some hzz
    rw [hie] at g1; cases g1
    obtain ⟨out, o1, o2⟩ := fill_all (es := ie.size) (vs := ps.map fun x => a.eval x.2) (k := 0) (cells := (Array.range (n * ie.size)).map (z.cells[· % z.cells.size]!)) hvl (by simp [hn])
    refine fin out ?_ ?_
    · rw [o2, hn]; simp
    · refine run_buildSlice w t e n _ out ie z (elq_some he) hie g2 (by omega) (by omega) ?_
      rw [hparts]; exact o1

theorem run_scal_fz {σ : VS} : ∀ {vs : List Value} {ls : List L} {q : Pubs}, vs.mapM scal = some ls → pubWith (Vm.pub0 σ) ls = some q → q.fz = []
  | [], ls, q, h, hq => by simp at h; subst h; rw [pubWith_nil] at hq; cases hq; rfl
  | v :: vs, ls, q, h, hq => by
    simp only [List.mapM_cons, Option.bind_eq_bind, Option.bind_eq_some_iff, Option.pure_def, Option.some.injEq] at h
    obtain ⟨l, h1, ls', h2, rfl⟩ := h
    obtain ⟨q1, q2, g1, g2, rfl⟩ := pubWith_cons hq
    have hfz : q1.fz = [] := by
      unfold scal at h1
      split at h1 <;> first | (cases h1; done) | skip
      all_goals
        simp only [Option.some.injEq] at h1
        subst h1
        simp only [Vm.pub0, Option.some.injEq] at g1
        subst g1; rfl
    simp [hfz, run_scal_fz h2 g2]

theorem RepD.makeSl (h : RepD Γ X N ds σ a w G St own) {d : Nat} {t : TypeId} {n c : L} {u v : Value} (hn : repLv σ.mem G St (rdW w) n u) (hc : repLv σ.mem G St (rdW w) c v) (hk : vmakeSlice P σ d t n c K) :
    Makes P Γ X N ds σ a w (Instr.makeSlice t u v) K := by
  unfold vmakeSlice at hk
  obtain ⟨e, he, hk1⟩ := wantO_iff.1 hk
  obtain ⟨es, hes, hk2⟩ := wantO_iff.1 hk1
  obtain ⟨by', hby, hk3⟩ := wantO_iff.1 hk2
  obtain ⟨z, hz, hk4⟩ := wantO_iff.1 hk3
  obtain ⟨ag, hag, hk5⟩ := wantO_iff.1 hk4
  obtain ⟨q, hq, hk6⟩ := wantO_iff.1 hk5
  obtain ⟨y, hy, hk7⟩ := wantO_iff.1 hk6
  clear hk hk1 hk2 hk3 hk4 hk5 hk6
  split at hk7
  · rename_i k m k' m'
    obtain ⟨⟨rfl, rfl, rfl, h1, h2, h3, h4, h5⟩, hK⟩ := need_iff.1 hk7
    rw [pint hn, pint hc]
    obtain ⟨ie, hie, hsz⟩ := szq_some hes
    subst hsz
    obtain ⟨i, zv, g1, g2, g3⟩ := zeq_some hz
    rw [hie] at g1; cases g1
    obtain ⟨ie2, hie2, hb⟩ := byq_some hby
    rw [hie] at hie2; cases hie2
    obtain ⟨r1, r2, r3⟩ := scals_rep (mem := σ.mem) (G := G) (St := St) (rd := rdW w) g3
    have hfz := run_scal_fz g3 hq
    have hL := h.pubCells r3 hq r1 (fz := []) (by rw [hfz]; simp)
    have hrep : repC (stF σ G St []) (rdW w) y zv.cells.toList := by
      unfold unAggV at hy
      split at hy
      · cases hy; simp only [repC]; exact hL
      · split at hy
        · rename_i c0 hc0
          cases hy
          rw [hc0] at hL
          simp only [repL] at hL
          obtain ⟨v0, r0, e0, ⟨_, p0⟩, rfl⟩ := hL
          rw [e0]; exact p0
        · cases hy
    have hrep2 : repC St (rdW w) y zv.cells.toList := repC_mono (fun b o hb => by rcases hb with hb | ⟨t, ht, _⟩; exact hb; cases ht) (fun _ _ _ => rfl) _ _ hrep
    have hzl : zv.cells.toList.length = ie.size := by rw [repC_len _ _ hrep2]; exact h4
    have hzs : zv.cells.size = ie.size := by simpa using hzl
    obtain ⟨n0, rfl⟩ := Int.eq_ofNat_of_zero_le h1
    simp only [Int.toNat_natCast] at h2 hK
    have hn0 : n0 ≤ maxBytes := Nat.le_trans (Nat.le_mul_of_pos_right n0 (by omega)) h2
    have hbb : ie.bytes * n0 ≤ 281474976710656 := by
      rw [hb]; have : by' * n0 ≤ n0 * (by' + 1) := by rw [Nat.mul_comm n0, Nat.succ_mul]; omega
      unfold maxBytes at h2; omega
    have hbb' : (ie.bytes : Int) * (n0 : Int) ≤ 281474976710656 := by
      have h6 : ((ie.bytes * n0 : Nat) : Int) ≤ 281474976710656 := by omega
      rwa [Int.natCast_mul] at h6
    have hrun := run_make (P := P) w t e ie zv (elq_some he) hie g2 .i64 .i64 (n0 : Int) (n0 : Int) (by omega) (by omega) hbb' (by unfold maxBytes at hn0; omega)
    simp only [Int.toNat_natCast] at hrun
    have hsz := size_madeCells zv.cells (n0 * ie.size)
    obtain ⟨G', own', hR, hv⟩ := h.mkArr h3 (e := e) (es := ie.size) (cap := n0) (xs := List.replicate n0 y) (cells := madeCells zv.cells (n0 * ie.size)) h5 (by simp) (by unfold maxBytes at hn0; unfold maxLen; omega) (by rw [hsz])
      ⟨by simp [hsz], fun i x hi => by
        have hin : i < n0 := by have := (List.getElem?_eq_some_iff.1 hi).1; simpa using this
        have hxy : x = y := by simp [hin] at hi; exact hi.symm
        subst hxy
        have : (((madeCells zv.cells (n0 * ie.size)).toList.take ((List.replicate n0 x).length * ie.size)).drop (i * ie.size)).take ie.size = zv.cells.toList := by
          have hle : i * ie.size + ie.size ≤ n0 * ie.size := by rw [← Nat.succ_mul]; exact Nat.mul_le_mul_right _ hin
          apply List.ext_getElem?
          intro j
          by_cases hj : j < ie.size
          · rw [List.getElem?_take_of_lt hj, List.getElem?_drop, List.getElem?_take_of_lt (by simp; omega)]
            have e1 : (i * ie.size + j) % zv.cells.size = j := by rw [hzs, Nat.mul_comm, Nat.mul_add_mod]; exact Nat.mod_eq_of_lt hj
            have hjz : j < zv.cells.size := by omega
            have hlt : i * ie.size + j < n0 * ie.size := by omega
            have e2 : (madeCells zv.cells (n0 * ie.size))[i * ie.size + j]? = some (zv.cells[(i * ie.size + j) % zv.cells.size]!) := by simp only [madeCells, Array.getElem?_map]; rw [Array.getElem?_range]; simp [hlt]
            rw [Array.getElem?_toList, e2, e1, Array.getElem?_toList]
            simp [hjz]
          · rw [List.getElem?_eq_none (by simp; omega), List.getElem?_eq_none (by omega)]
        rw [this]; exact hrep2⟩
    simp only [List.length_replicate] at hv
    exact ⟨_, _, _, hK, hrun, _, _, _, hR, hv⟩
  · exact hk7.elim

/-- The elements of a slice, where they lie. -/
theorem RepD.contVals (h : RepD Γ X N ds σ a w G St own) {x : L} {u : Value} {ys : List V} {ks : List Key} {es : Nat} (hx : repLv σ.mem G St (rdW w) x u) (hc : conts σ x = some (ys, ks)) (hes : ∀ y ∈ ys, y.cells.length = es) :
    (u = .slice none 0 0 ∧ ys = []) ∨ ∃ b o cap news, u = .slice (some ⟨b, o, none⟩) ys.length cap ∧ news.length = ys.length * es ∧ (∀ (j : Nat) (z : Value), news[j]? = some z → w.cell? ⟨b, o + j, none⟩ = some z) ∧ repEs St (rdW w) es ys news ∧ ∀ z ∈ news, z.oneCell' = true := by
  have ofE : ∀ {b o sz : Nat} {ys : List V}, (∀ y ∈ ys, y.cells.length = es) → repE St (rdW w) ys b sz o → ∃ news : List Value, news.length = ys.length * es ∧ (∀ (j : Nat) (z : Value), news[j]? = some z → w.cell? ⟨b, o + j, none⟩ = some z) ∧ repEs St (rdW w) es ys news ∧ ∀ z ∈ news, z.oneCell' = true := by
    intro b o sz ys
    induction ys generalizing o with
    | nil => intro _ _; exact ⟨[], by simp, by simp, ⟨by simp, by simp⟩, by simp⟩
    | cons y ys ih =>
      intro hy hE
      simp only [repE] at hE
      obtain ⟨⟨vs, h1, h2, h3⟩, hE⟩ := hE
      have hl := repC_len _ _ h3
      have hyl := hy y (by simp)
      have hsz : sz = es := by omega
      subst hsz
      obtain ⟨news, n1, n2, ⟨n3, n4⟩, n5⟩ := ih (fun z hz => hy z (List.mem_cons_of_mem _ hz)) hE
      refine ⟨vs ++ news, by simp [n1, h1, Nat.succ_mul]; omega, fun j z hj => ?_, ⟨by simp [n1, h1, Nat.succ_mul]; omega, fun i x hi => ?_⟩, fun z hz => ?_⟩
      · by_cases hjl : j < vs.length
        · rw [List.getElem?_append_left hjl] at hj
          exact (cellsAt_get.1 h2 j z hj).1
        · rw [List.getElem?_append_right (by omega)] at hj
          have := n2 _ z hj
          rw [h1] at this hjl
          have e : o + sz + (j - sz) = o + j := by omega
          rwa [e] at this
      · cases i with
        | zero => simp only [List.getElem?_cons_zero, Option.some.injEq] at hi; subst hi; rw [Nat.zero_mul, List.drop_zero, List.take_left' h1]; exact h3
        | succ i =>
          have e : (i + 1) * sz = vs.length + i * sz := by rw [h1, Nat.succ_mul]; omega
          rw [e, ← List.drop_drop, List.drop_left]
          exact n4 i x (by simpa using hi)
      · rcases List.mem_append.1 hz with hz | hz
        · exact oneCell_of_plain (repC_plain _ _ h3 z hz)
        · exact n5 z hz
  unfold conts at hc
  split at hc
  · simp only [Option.some.injEq, Prod.mk.injEq] at hc
    obtain ⟨rfl, rfl⟩ := hc
    rcases psl hx with ⟨rfl, rfl⟩ | ⟨b, o, cap, sz, rfl, _, hE⟩
    · exact .inl ⟨rfl, rfl⟩
    · obtain ⟨news, n1, n2, n3, n4⟩ := ofE hes hE
      exact .inr ⟨b, o, cap, news, rfl, n1, n2, n3, n4⟩
  · simp only [Option.some.injEq, Prod.mk.injEq] at hc
    obtain ⟨rfl, rfl⟩ := hc
    simp only [repLv] at hx
    exact .inl ⟨hx, rfl⟩
  · simp only [Option.some.injEq, Prod.mk.injEq] at hc
    obtain ⟨rfl, rfl⟩ := hc
    simp only [repLv] at hx
    rcases hx with rfl | ⟨b, o, rfl⟩
    · exact .inl ⟨rfl, rfl⟩
    · exact .inr ⟨b, o, 0, [], rfl, by simp, by simp, ⟨by simp, by simp⟩, by simp⟩
  · rename_i t g
    obtain ⟨⟨⟨e, es'⟩, xs⟩, hcu, hp⟩ := Option.map_eq_some_iff.1 hc
    simp only [Prod.mk.injEq] at hp
    obtain ⟨rfl, rfl⟩ := hp
    have hm := curA_some hcu
    have hv := h.arrVal hm hx
    obtain ⟨h0, vs, ⟨hlen, ho⟩, hl, hxs⟩ := h.arrs t g _ _ _ hm
    simp only at hl hxs hlen ho
    rcases ho with ⟨h1, h2⟩ | ⟨blk, cap, cur, h1, _, hb, hnc, hcm, hcs, hcur⟩
    · exact .inl ⟨by rw [hv, h1], List.eq_nil_of_length_eq_zero h2⟩
    · by_cases hnil : xs = []
      · subst hnil
        exact .inr ⟨blk, 0, cap, [], by rw [hv, h1], by simp, by simp, ⟨by simp, by simp⟩, by simp⟩
      · obtain ⟨y, ys, rfl⟩ := List.exists_cons_of_ne_nil hnil
        have hee : es' = es := by
          have p1 := repC_len _ _ (hxs 0 y rfl)
          have p2 := hes y (by simp)
          have : es' ≤ vs.length := by rw [hl]; simp [Nat.succ_mul]
          simp at p1; omega
        subst hee
        refine .inr ⟨blk, 0, cap, vs, by rw [hv, h1], hl, fun j z hj => ?_, ⟨hl, hxs⟩, fun z hz => ?_⟩
        · have : cur[j]? = some z := by rw [take_get hcur (List.getElem?_eq_some_iff.1 hj).1]; exact hj
          simp only [World.cell?, hb, Nat.zero_add]; simpa using this
        · obtain ⟨k, hk⟩ := List.mem_iff_getElem?.1 hz
          have hkl : k < (y :: ys).length * es' := by rw [← hl]; exact (List.getElem?_eq_some_iff.1 hk).1
          have hi : k / es' < (y :: ys).length := Nat.div_lt_of_lt_mul (by rw [Nat.mul_comm]; exact hkl)
          have hmem : z ∈ (vs.drop (k / es' * es')).take es' := by
            refine List.mem_iff_getElem?.2 ⟨k % es', ?_⟩
            rw [List.getElem?_take_of_lt (Nat.mod_lt _ h0), List.getElem?_drop, Nat.mul_comm, Nat.div_add_mod]; exact hk
          exact oneCell_of_plain (repC_plain _ _ (hxs (k / es') _ (by rw [List.getElem?_eq_getElem hi])) z hmem)
  · cases hc
end Go.Vm
