import Derived.Test.YtmebdgliiickfaaVmH
import Derived.Laws.AppendOwn
set_option linter.all false
/- Each operation does in the model what the value machine says: stores, arrays. -/
namespace Go.Vm
variable {Γ : Nat → Option (List V)} {X : Ctx} {N : Nat} {ds : List Deferred} {σ : VS} {a : Act} {w w' : World} {G G' : GG} {St St' : Nat → Nat → Prop} {own : Nat → Prop} {P : Program} {K : Eff → Prop}

theorem look_append {k : Key} {m : M} : ∀ {x y : List (Key × M)}, look k m (x ++ y) = look k (look k m y) x
  | [], _ => rfl
  | (k', v) :: x, y => by simp only [List.cons_append, look]; split <;> first | rfl | exact look_append
theorem upd_upd (σ : VS) (x y : List (Key × M)) : (σ.upd x).upd y = σ.upd (y ++ x) := by
  simp only [VS.upd, look_append]

theorem cells_rep {mem : Key → M} {rd : Nat → Nat → Option Value} {x : L} {u : Value} (hc : x.cells.all L.isCell = true) (h : repLv mem G St rd x u) : repLs mem G St rd x.cells u.cells.toList ∧ ∀ v ∈ u.cells.toList, v.oneCell' = true := by
  have one : ∀ {ls : List L} {vs : List Value}, ls.all L.isCell = true → repLs mem G St rd ls vs → ∀ v ∈ vs, v.oneCell' = true := fun {ls vs} hl hr v hv => by
    obtain ⟨i, hi⟩ := List.mem_iff_getElem?.1 hv
    obtain ⟨h1, h2⟩ := repLs_get.1 hr
    have hil : i < ls.length := by rw [h1]; exact (List.getElem?_eq_some_iff.1 hi).1
    exact isCell_one (List.all_eq_true.1 hl _ (List.getElem_mem hil)) (h2 i ls[i] v (by simp [hil]) hi)
  have key : repLs mem G St rd x.cells u.cells.toList := by
    cases x with
    | p v =>
      simp only [repLv] at h
      exact repLs_p ((repC_cells v _).1 h.1)
    | agg ls =>
      simp only [repLv] at h
      obtain ⟨vs, rfl, h⟩ := h
      exact h
    | _ =>
      simp only [L.cells, List.all_cons, List.all_nil, Bool.and_true] at hc ⊢
      rw [cells_of_one (isCell_one hc h)]
      simp only [repLs]
      exact ⟨u, [], rfl, h, rfl⟩
  exact ⟨key, one hc key⟩

theorem run_storeVar {t n b o : Nat} {cur : Array Value} {e : TypeId} {v : Value} (hn : szq P t = some n) (hl : v.cells.toList.length = n) (hb : w.heap[b]? = some (.cells cur e (0, 0))) (hj : o + n ≤ cur.size) (h1 : ∀ u ∈ v.cells.toList, u.oneCell' = true) :
    (storeVar t ⟨b, o, none⟩ v).run P w = .ok () (w.setRow b (cur.toList.take o ++ v.cells.toList ++ cur.toList.drop (o + v.cells.toList.length)).toArray) := by
  have := run_storeCells_at (P := P) b o e v.cells.toList 0 cur w hb (by omega) h1
  simp only [Nat.add_zero] at this
  have hs : v.cells.size = n := by simpa using hl
  simp [storeVar, run_sizeOf hn, hs, this]

theorem get_splice {cs nc : List Value} {o k : Nat} (ho : o + nc.length ≤ cs.length) : (cs.take o ++ nc ++ cs.drop (o + nc.length))[k]? = if o ≤ k ∧ k < o + nc.length then nc[k - o]? else cs[k]? := by
  simp only [List.append_assoc]
  have hl : (cs.take o).length = o := by simp; omega
  by_cases h1 : k < o
  · rw [List.getElem?_append_left (by omega), if_neg (by omega), List.getElem?_take_of_lt h1]
  · rw [List.getElem?_append_right (by omega), hl]
    by_cases h2 : k < o + nc.length
    · rw [List.getElem?_append_left (by omega), if_pos (by omega)]
    · rw [List.getElem?_append_right (by omega), if_neg (by omega), List.getElem?_drop]
      congr 1; omega

theorem repEs_set {rd : Nat → Nat → Option Value} {es : Nat} {xs : List V} {vs nc : List Value} {i : Nat} {y : V} (h : repEs St rd es xs vs) (hi : i < xs.length) (hn : nc.length = es) (hy : repC St rd y nc) :
    repEs St rd es (xs.set i y) (vs.take (i * es) ++ nc ++ vs.drop (i * es + nc.length)) := by
  obtain ⟨h1, h2⟩ := h
  have hle : i * es + es ≤ xs.length * es := by rw [← Nat.succ_mul]; exact Nat.mul_le_mul_right _ hi
  refine ⟨by simp; omega, fun k x hk => ?_⟩
  have hkl : k < xs.length := by have := (List.getElem?_eq_some_iff.1 hk).1; simpa using this
  have hkle : k * es + es ≤ xs.length * es := by rw [← Nat.succ_mul]; exact Nat.mul_le_mul_right _ hkl
  have ext : ∀ l : List Value, l.length = es → (∀ j, j < es → (vs.take (i * es) ++ nc ++ vs.drop (i * es + nc.length))[k * es + j]? = l[j]?) → ((vs.take (i * es) ++ nc ++ vs.drop (i * es + nc.length)).drop (k * es)).take es = l := fun l hl hj => by
    apply List.ext_getElem?
    intro j
    by_cases hjs : j < es
    · rw [List.getElem?_take_of_lt hjs, List.getElem?_drop]; exact hj j hjs
    · rw [List.getElem?_eq_none (by simp; omega), List.getElem?_eq_none (by omega)]
  by_cases hik : i = k
  · subst hik
    rw [List.getElem?_set_self hi] at hk
    cases hk
    rw [ext nc hn fun j hj => by rw [get_splice (by omega), if_pos (by omega)]; congr 1; omega]
    exact hy
  · rw [List.getElem?_set_ne hik] at hk
    rw [ext ((vs.drop (k * es)).take es) (by simp; omega) fun j hj => ?_]
    · exact h2 k x hk
    · rw [get_splice (by omega), if_neg ?_, List.getElem?_take_of_lt hj, List.getElem?_drop]
      rintro ⟨p, q⟩
      rcases Nat.lt_or_gt_of_ne hik with h | h
      · have : i * es + es ≤ k * es := by rw [← Nat.succ_mul]; exact Nat.mul_le_mul_right _ h
        omega
      · have : k * es + es ≤ i * es := by rw [← Nat.succ_mul]; exact Nat.mul_le_mul_right _ h
        omega

theorem RepD.store (h : RepD Γ X N ds σ a w G St own) {t : TypeId} {l x : L} {v u : Value} (hv : repLv σ.mem G St (rdW w) l v) (hx : repLv σ.mem G St (rdW w) x u) (hk : vstore P σ t l x K) :
    ∃ e w1, K e ∧ e.val = .dead ∧ (Instr.storeAt t v u).run P w = .ok () w1 ∧ ∃ G' St' own', RepD Γ X N ds (σ.upd e.wr) a w1 G' St' own' := by
  unfold vstore at hk
  obtain ⟨n, hn, hk'⟩ := wantO_iff.1 hk
  clear hk
  split at hk'
  · rename_i s j
    obtain ⟨m, hm, hk⟩ := wantO_iff.1 hk'
    obtain ⟨⟨h1, h2, h3, h4⟩, hK⟩ := need_iff.1 hk
    have hb := boxN_some hm
    obtain ⟨cs, e, p, q, _⟩ := h.boxes s m hb
    obtain ⟨c1, c2⟩ := cells_rep h4 hx
    have hl := repLs_length c1
    simp only [repLv] at hv
    obtain ⟨rfl, _⟩ := hv
    refine ⟨_, _, hK, rfl, ?_, _, _, _, h.setBox hb h3 (by omega) c1 c2 p⟩
    simp only [Instr.storeAt, Instr.sureAddr]
    exact run_storeVar hn (by omega) p (by omega) c2
  · rename_i s g i j
    obtain ⟨⟨⟨e, es⟩, xs⟩, hc, hk⟩ := wantO_iff.1 hk'
    obtain ⟨y, hy, hk⟩ := wantO_iff.1 hk
    obtain ⟨q, hq, hk⟩ := wantO_iff.1 hk
    obtain ⟨⟨h1, h2, h3, h4⟩, hk⟩ := need_iff.1 hk
    obtain ⟨y2, hy2, hK⟩ := wantO_iff.1 hk
    have hm := curA_some hc
    simp only at hm hy
    have hF := h.frz q.fz
    have hm1 : (σ.upd (frzs q.fz)).mem (.a s) = .arr g e es xs := by rw [← hm]; exact look_frzs (by simp)
    have hf1 : isNone ((σ.upd (frzs q.fz)).mem (.f s)) = true := by
      have : (σ.upd (frzs q.fz)).mem (.f s) = if s ∈ q.fz then .frz else σ.mem (.f s) := look_frzs_f
      rw [this, if_neg h4]; exact h3
    have hu := h.pub1 hq hx (fz := q.fz) fun _ h => h
    have huc := (repC_cells _ _).1 hu.1
    have hul := repL_len _ _ huc
    have hup := repL_plain _ _ huc
    obtain ⟨h0, vs, ⟨hlen, ho⟩, hl, hxs⟩ := hF.arrs s g e es xs hm1
    simp only [repLv] at hv
    obtain ⟨g', e', es', xs', q1, q2, q3⟩ := hv
    rw [hm] at q1; cases q1
    obtain ⟨blk, r1, r2, rfl⟩ := q3 rfl
    have hsa := (hF.sarr s g e es xs blk hm1 r1).1 hf1
    rcases ho with ⟨hv, _⟩ | ⟨blk', cap, cur, hv, _, hb, hnc, hcm, hcs, hcur⟩
    · rw [hv] at r1; cases r1
    have eb : blk = blk' := by rw [hv] at r1; simpa [Value.ownBlock] using r1.symm
    subst eb
    have hle : i * es + es ≤ xs.length * es := by rw [← Nat.succ_mul]; exact Nat.mul_le_mul_right _ r2
    have hcapes : xs.length * es ≤ cur.size := by rw [hcs]; exact Nat.mul_le_mul_right _ hnc
    have hyc := (repC_cells _ _).1 (hxs i y hy)
    have hyl := repL_len _ _ hyc
    have hyes : y.cells.length = es := by
      have : ((vs.drop (i * es)).take es).length = es := by simp; omega
      omega
    -- the element's new cells
    have hnc1 : ((vs.drop (i * es)).take es).length = es := by simp; omega
    have hrow : repC (stF σ G St q.fz) (rdW w) y2 (((vs.drop (i * es)).take es).take j ++ u.cells.toList ++ ((vs.drop (i * es)).take es).drop (j + n)) := by
      have e1 : y.cells = y.cells.take j ++ ((y.cells.drop j).take n ++ (y.cells.drop j).drop n) := by rw [List.take_append_drop, List.take_append_drop]
      have e2 := hyc
      rw [e1] at e2
      obtain ⟨l1, l2, k1, k2, k3⟩ := repL_split e2
      obtain ⟨l3, l4, rfl, k4, k5⟩ := repL_split k3
      have n1 := repL_len _ _ k2
      have n3 := repL_len _ _ k4
      simp at n1 n3
      have d1 : l1.length = j := by omega
      have d3 : l3.length = n := by omega
      have t1 : ((vs.drop (i * es)).take es).take j = l1 := by rw [k1, List.take_left' d1]
      have t2 : ((vs.drop (i * es)).take es).drop (j + n) = l4 := by
        rw [k1, ← List.append_assoc, List.drop_left' (by simp; omega)]
      rw [t1, t2]
      have hcat := repL_append (repL_append k2 huc) k5
      rw [List.drop_drop] at hcat
      unfold reCell unAggV at hy2
      split at hy2
      · cases hy2; simp only [repC]; exact hcat
      · split at hy2
        · rename_i c hcc
          cases hy2
          rw [hcc] at hcat
          simp only [repL] at hcat
          obtain ⟨z, r, hz, ⟨_, hz2⟩, rfl⟩ := hcat
          rw [hz]; exact hz2
        · cases hy2
    have hnl : (((vs.drop (i * es)).take es).take j ++ u.cells.toList ++ ((vs.drop (i * es)).take es).drop (j + n)).length = es := by
      simp only [List.length_append, List.length_take, List.length_drop] at hnc1 ⊢; omega
    have hus : u.cells.toList.length = n := by omega
    have husz : u.cells.size = n := by rw [← hus]; simp
    generalize hnew : (cur.toList.take (i * es + j) ++ u.cells.toList ++ cur.toList.drop (i * es + j + u.cells.toList.length)).toArray = new
    have hnsz : new.size = cur.size := by rw [← hnew]; simp; omega
    have hEs := repEs_set ⟨hl, hxs⟩ r2 hnl hrow
    have hvs2 : new.toList.take (xs.length * es) = vs.take (i * es) ++ (((vs.drop (i * es)).take es).take j ++ u.cells.toList ++ ((vs.drop (i * es)).take es).drop (j + n)) ++ vs.drop (i * es + (((vs.drop (i * es)).take es).take j ++ u.cells.toList ++ ((vs.drop (i * es)).take es).drop (j + n)).length) := by
      apply List.ext_getElem?
      intro k
      by_cases hk : k < xs.length * es
      · rw [List.getElem?_take_of_lt hk, ← hnew]
        simp only []
        have hcv : ∀ k, k < xs.length * es → cur.toList[k]? = vs[k]? := fun k hk => by rw [← hcur, List.getElem?_take_of_lt hk]
        rw [get_splice (by simp; omega), get_splice (by omega)]
        by_cases hin : i * es ≤ k ∧ k < i * es + es
        · rw [if_pos (c := i * es ≤ k ∧ _) (by omega)]
          have hul' : u.cells.toList.length = n := by omega
          have hE : (((vs.drop (i * es)).take es).take j ++ u.cells.toList ++ ((vs.drop (i * es)).take es).drop (j + n)) = (((vs.drop (i * es)).take es).take j ++ u.cells.toList ++ ((vs.drop (i * es)).take es).drop (j + u.cells.toList.length)) := by rw [hul']
          rw [hE, get_splice (by omega)]
          by_cases h5 : i * es + j ≤ k ∧ k < i * es + j + u.cells.toList.length
          · rw [if_pos h5, if_pos (by omega)]; congr 1; omega
          · rw [if_neg h5, if_neg (by omega), hcv k hk, List.getElem?_take_of_lt (by omega), List.getElem?_drop]; congr 1; omega
        · rw [if_neg (c := i * es ≤ k ∧ _) (by omega), if_neg (by omega), hcv k hk]
      · rw [List.getElem?_eq_none (by simp; omega), List.getElem?_eq_none]
        simp only [List.length_append, List.length_take, List.length_drop] at hnl ⊢; omega
    have hrun : (Instr.storeAt t (.pointer (some ⟨blk, i * es + j, none⟩)) u).run P w = .ok () (w.setRow blk new) := by
      simp only [Instr.storeAt, Instr.sureAddr]
      rw [← hnew]
      exact run_storeVar hn (by omega) hb (by omega) (fun z hz => oneCell_of_plain (hup z hz))
    refine ⟨_, _, hK, rfl, hrun, ?_⟩
    have hupd := hF.updArr (w' := w.setRow blk new) (g2 := g) (xs2 := xs.set i y2) (v2 := G.av s) hm1
      ⟨rfl, rfl, rfl, by simp, fun k _ hk => setRow_other w blk k _ fun e0 => hk (by rw [r1, e0])⟩
      ⟨by simpa using hEs.1, .inr ⟨blk, cap, new, by simpa using hv, Nat.zero_le _, setRow_heap w blk cur new e (0, 0) hb, by simpa using hnc, hcm, by rw [hnsz]; exact hcs, by simpa using hvs2⟩⟩
      hEs
      (fun b o hst => rdW_of_block (setRow_other w blk b _ fun e0 => hsa o (e0 ▸ hst)))
      (by simp) (.inr ⟨rfl, by simp, rfl⟩) (fun b hb' => .inl hb')
    rw [upd_upd] at hupd
    exact ⟨_, _, _, hupd⟩
  · exact hk'.elim
end Go.Vm
