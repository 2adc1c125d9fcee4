import Derived.Test.YtmebdgliiickfaaVmJ
import Derived.Laws.StructEq
import Derived.Laws.Cover3
import Derived.Laws.Concat
import Derived.WalkSpells
set_option linter.all false
/- Each operation does in the model what the value machine says: numbers, comparisons. -/
namespace Go.Vm
variable {Γ : Nat → Option (List V)} {X : Ctx} {N : Nat} {ds : List Deferred} {σ : VS} {a : Act} {w w' : World} {G G' : GG} {St St' : Nat → Nat → Prop} {own : Nat → Prop} {P : Program} {K : Eff → Prop}

/-- A value of a type, by its cells. -/
def Val (P : Program) (t : TypeId) (cs : List Value) (u : Value) : Prop :=
  (∃ fs, P.underlying t = some (.struct fs) ∧ u = .agg cs.toArray) ∨ (agq P t = some false ∧ cs = [u])

theorem eqvs_split : ∀ {n : Nat} {xs ys : List V} {r : Bool}, eqvs xs ys = some r → xs.length = ys.length ∧ ∃ r1 r2, eqvs (xs.take n) (ys.take n) = some r1 ∧ eqvs (xs.drop n) (ys.drop n) = some r2 ∧ r = (r1 && r2)
  | n, [], [], r, h => by simp only [eqvs, Option.some.injEq] at h; subst h; simp [eqvs]
  | n, x :: xs, y :: ys, r, h => by
    simp only [eqvs] at h
    split at h
    · rename_i p q hp hq
      cases h
      cases n with
      | zero =>
        obtain ⟨hl, _⟩ := eqvs_split (n := 0) hq
        refine ⟨by simp [hl], true, _, rfl, ?_, rfl⟩
        simp only [List.drop_zero, eqvs, hp, hq]; cases p <;> rfl
      | succ n =>
        obtain ⟨hl, r1, r2, h1, h2, rfl⟩ := eqvs_split (n := n) hq
        refine ⟨by simp [hl], p && r1, r2, ?_, by simpa using h2, by rw [Bool.and_assoc]⟩
        simp only [List.take_succ_cons, eqvs, hp, h1]
    · cases h
  | n, [], _ :: _, r, h => by simp [eqvs] at h
  | n, _ :: _, [], r, h => by simp [eqvs] at h
theorem eqvs_kd : ∀ {xs ys : List V} {r : Bool}, eqvs xs ys = some r → xs.map V.kd = ys.map V.kd
  | [], [], _, _ => rfl
  | x :: xs, y :: ys, r, h => by
    simp only [eqvs] at h
    split at h
    · rename_i p q hp hq
      simp only [List.map_cons]
      rw [eqvs_kd hq]
      congr 1
      cases x <;> cases y <;> simp [eqvV] at hp <;> rfl
    · cases h
  | [], _ :: _, r, h => by simp [eqvs] at h
  | _ :: _, [], r, h => by simp [eqvs] at h

theorem agq_of {t : TypeId} {d : TypeDesc} (h : P.underlying t = some d) (h1 : ∀ fs, d ≠ .struct fs) (h2 : ∀ n e, d ≠ .array n e) : agq P t = some false := by
  unfold agq; rw [h]; cases d <;> first | rfl | exact (h1 _ rfl).elim | exact (h2 _ _ rfl).elim

theorem run_part_val {t off n : Nat} {cs : List Value} {all : Array Value} (hn : szq P t = some n) (hv : (∃ fs, P.underlying t = some (.struct fs)) ∨ (agq P t = some false ∧ n = 1)) (hcs : (all.toList.drop off).take n = cs) (hle : off + n ≤ all.size) (w : World) :
    ∃ u, (Go.part t all off).run P w = .ok u w ∧ Val P t cs u := by
  rcases hv with ⟨fs, hf⟩ | ⟨ha, rfl⟩
  · have ha : agq P t = some true := by unfold agq; rw [hf]
    have : all.extract off (off + n) = cs.toArray := by
      rw [← hcs]; apply Array.toList_inj.1; simp [List.take_drop]
    exact ⟨.agg cs.toArray, by simp [Go.part, run_isAgg ha, run_sizeOf hn, this], .inl ⟨fs, hf, rfl⟩⟩
  · have h1 : off < all.size := by omega
    refine ⟨all[off], by simp [Go.part, run_isAgg ha, h1], .inr ⟨ha, ?_⟩⟩
    rw [← hcs]
    apply List.ext_getElem?
    intro j
    cases j with
    | zero => simp [h1]
    | succ j => rw [List.getElem?_eq_none (by simp; omega), List.getElem?_eq_none (by simp)]

theorem flat_ok : ∀ (d : Nat) (t : TypeId) (ks : List Nat), flat P d t = some ks → ((∃ fs, P.underlying t = some (.struct fs)) ∨ (agq P t = some false ∧ ks.length = 1)) ∧
    ∀ {St : Nat → Nat → Prop} {rd : Nat → Nat → Option Value} (xs ys : List V) (cx cy : List Value) (r : Bool), xs.map V.kd = ks → repL St rd xs cx → repL St rd ys cy → eqvs xs ys = some r →
      ∀ u v, Val P t cx u → Val P t cy v → ∀ (k : Nat) (w : World), d ≤ k → (Op.equalIn k t u v).run P w = .ok r w
  | 0, t, ks, h => by simp [flat] at h
  | d + 1, t, ks, h => by
    simp only [flat] at h
    -- the scalar kinds
    have one : ∀ {x y : List V} {cx cy : List Value} {u v : Value} {r : Bool} {St : Nat → Nat → Prop} {rd : Nat → Nat → Option Value}, agq P t = some false → repL St rd x cx → repL St rd y cy → eqvs x y = some r → Val P t cx u → Val P t cy v → x.length = 1 →
        ∃ x1 y1, x = [x1] ∧ y = [y1] ∧ repC St rd x1 [u] ∧ repC St rd y1 [v] ∧ eqvV x1 y1 = some r := by
      intro x y cx cy u v r St rd ha hx hy he hu hv hl
      have ns : ¬ ∃ fs, P.underlying t = some (.struct fs) := by rintro ⟨fs, hf⟩; simp [agq, hf] at ha
      rcases hu with ⟨fs, hf, _⟩ | ⟨_, rfl⟩
      · exact (ns ⟨fs, hf⟩).elim
      rcases hv with ⟨fs, hf, _⟩ | ⟨_, rfl⟩
      · exact (ns ⟨fs, hf⟩).elim
      match x, hl with
      | [x1], _ =>
        obtain ⟨hle, _⟩ := eqvs_split (n := 0) he
        match y, hle with
        | [y1], _ =>
          simp only [eqvs] at he
          split at he
          · rename_i p q hp hq
            cases hq; cases he
            simp only [repL, List.cons.injEq] at hx hy
            obtain ⟨v1, r1, ⟨rfl, rfl⟩, ⟨_, h1⟩, _⟩ := hx
            obtain ⟨v2, r2, ⟨rfl, rfl⟩, ⟨_, h2⟩, _⟩ := hy
            exact ⟨x1, y1, rfl, rfl, h1, h2, by simpa using hp⟩
          · cases he
    split at h
    · rename_i hu
      cases h
      have ha := agq_of hu (by simp) (by simp)
      refine ⟨.inr ⟨ha, rfl⟩, fun xs ys cx cy r hk hx hy he u v hvu hvv k w hle => ?_⟩
      obtain ⟨x1, y1, rfl, rfl, h1, h2, h3⟩ := one ha hx hy he hvu hvv (by have := congrArg List.length hk; simpa using this)
      obtain ⟨k, rfl⟩ : ∃ j, k = j + 1 := ⟨k - 1, by omega⟩
      cases x1 <;> simp [V.kd] at hk
      cases y1 <;> simp [eqvV] at h3
      simp only [repC, List.cons.injEq, and_true] at h1 h2
      subst h1; subst h2; subst h3
      simp [Op.equalIn, run_underlying hu]
    · rename_i kd hu
      cases h
      have ha := agq_of hu (by simp) (by simp)
      refine ⟨.inr ⟨ha, rfl⟩, fun xs ys cx cy r hk hx hy he u v hvu hvv k w hle => ?_⟩
      obtain ⟨x1, y1, rfl, rfl, h1, h2, h3⟩ := one ha hx hy he hvu hvv (by have := congrArg List.length hk; simpa using this)
      obtain ⟨k, rfl⟩ : ∃ j, k = j + 1 := ⟨k - 1, by omega⟩
      cases x1 <;> simp [V.kd] at hk
      cases y1 <;> simp [eqvV] at h3
      simp only [repC, List.cons.injEq, and_true] at h1 h2
      subst h1; subst h2
      obtain ⟨hk, h3⟩ := h3
      subst hk; subst h3
      simp [Op.equalIn, run_underlying hu]
    · rename_i hu
      cases h
      have ha := agq_of hu (by simp) (by simp)
      refine ⟨.inr ⟨ha, rfl⟩, fun xs ys cx cy r hk hx hy he u v hvu hvv k w hle => ?_⟩
      obtain ⟨x1, y1, rfl, rfl, h1, h2, h3⟩ := one ha hx hy he hvu hvv (by have := congrArg List.length hk; simpa using this)
      obtain ⟨k, rfl⟩ : ∃ j, k = j + 1 := ⟨k - 1, by omega⟩
      cases x1 <;> simp [V.kd] at hk
      cases y1 <;> simp [eqvV] at h3
      simp only [repC, List.cons.injEq, and_true] at h1 h2
      subst h1; subst h2; subst h3
      simp [Op.equalIn, run_underlying hu, beq_toListBytes]
    · rename_i fs hu
      split at h
      · cases h
      rename_i hst
      refine ⟨.inl ⟨fs, hu⟩, fun {St rd} xs ys cx cy r hk hx hy he u v hvu hvv k w hle => ?_⟩
      obtain ⟨k, rfl⟩ : ∃ j, k = j + 1 := ⟨k - 1, by omega⟩
      have na : agq P t ≠ some false := by simp [agq, hu]
      have eu : u = .agg cx.toArray := by
        rcases hvu with ⟨_, _, e⟩ | ⟨ha, _⟩
        · exact e
        · exact (na ha).elim
      have ev : v = .agg cy.toArray := by
        rcases hvv with ⟨_, _, e⟩ | ⟨ha, _⟩
        · exact e
        · exact (na ha).elim
      subst eu; subst ev
      have hf : P.underlying t = some (.struct (P.fieldsOf t)) := by rw [hu]; simp [Program.fieldsOf, hu]
      have hfs : P.fieldsOf t = fs := by rw [hu] at hf; cases hf; rfl
      rw [run_equalIn_agg w k t _ _ hf (by simpa using hst), hfs]
      have hxy := (eqvs_split (n := 0) he).1
      -- the fields, one by one
      have key : ∀ (l : List Field) (o : Nat) (ks : List Nat), flatFs P (flat P d) l o = some ks → (xs.map V.kd).drop o = ks → o ≤ xs.length → ∀ r, eqvs (xs.drop o) (ys.drop o) = some r →
          (Op.eqFields k cx.toArray cy.toArray l).run P w = .ok r w := by
        intro l
        induction l with
        | nil =>
          intro o ks hl hko hox r he
          simp only [flatFs, Option.some.injEq] at hl
          subst hl
          have : xs.length ≤ o := by have := congrArg List.length hko; simp at this; omega
          rw [List.drop_eq_nil_of_le this, List.drop_eq_nil_of_le (by omega)] at he
          simp only [eqvs, Option.some.injEq] at he
          subst he
          simp [Op.eqFields]
        | cons f l ih =>
          intro o ks hl hko hox r he
          simp only [flatFs] at hl
          split at hl
          · cases hl
          rename_i hn
          have hname : f.name ≠ "_" := fun e => hn (.inl e)
          have hoff : f.offset = o := Classical.byContradiction fun e => hn (.inr e)
          clear hn
          subst hoff
          split at hl
          · rename_i kf hkf
            split at hl
            · rename_i hsz
              obtain ⟨kr, hkr, rfl⟩ := Option.map_eq_some_iff.1 hl
              obtain ⟨g1, g2⟩ := flat_ok d f.type kf hkf
              obtain ⟨hlen, r1, r2, e1, e2, rfl⟩ := eqvs_split (n := kf.length) he
              have lx := repL_len _ _ hx
              have ly := repL_len _ _ hy
              have hko2 := congrArg List.length hko
              simp at hko2 hlen
              have sx : repL St rd ((xs.drop f.offset).take kf.length) ((cx.drop f.offset).take kf.length) ∧ f.offset + kf.length ≤ cx.length := repL_sub hx (by unfold sub; rw [if_pos (by omega)])
              have sy : repL St rd ((ys.drop f.offset).take kf.length) ((cy.drop f.offset).take kf.length) ∧ f.offset + kf.length ≤ cy.length := repL_sub hy (by unfold sub; rw [if_pos (by omega)])
              obtain ⟨u1, ru1, vu1⟩ := run_part_val (P := P) (all := cx.toArray) hsz g1 rfl (by simpa using sx.2) w
              obtain ⟨v1, rv1, vv1⟩ := run_part_val (P := P) (all := cy.toArray) hsz g1 rfl (by simpa using sy.2) w
              have hkf' : ((xs.drop f.offset).take kf.length).map V.kd = kf := by
                rw [List.map_take, List.map_drop, hko, List.take_left]
              have heq := g2 _ _ _ _ r1 hkf' sx.1 sy.1 e1 u1 v1 vu1 vv1 k w (by omega)
              have hrest := ih (f.offset + kf.length) kr hkr (by rw [← List.drop_drop, hko, List.drop_left]) (by omega) r2 (by rw [← List.drop_drop, ← List.drop_drop]; exact e2)
              simp only [Op.eqFields, hname, ne_eq, not_false_eq_true, if_true, Sem.run_bind, ru1, rv1, heq, Result.andThen_ok]
              cases r1 with
              | true => simpa using hrest
              | false => simp
            · cases hl
          · cases hl
      exact key fs.toList 0 ks h (by simpa using hk) (Nat.zero_le _) r (by simpa using he)
    · cases h

theorem cmpq_eq {t : TypeId} {xs ys : List V} {r : Bool} {cx cy : Array Value} {rd : Nat → Nat → Option Value} (hc : cmpq P t = some (xs.map V.kd)) (he : eqvs xs ys = some r) (hx : repL St rd xs cx.toList) (hy : repL St rd ys cy.toList) (w : World) :
    (Op.equalIn 10000 t (.agg cx) (.agg cy)).run P w = .ok r w ∧ P.eqGuardType P.depth t = false := by
  unfold cmpq at hc
  split at hc
  · rename_i fs hu
    split at hc
    · cases hc
    · rename_i hg
      exact ⟨(flat_ok 9 t _ hc).2 xs ys _ _ r rfl hx hy he _ _ (.inl ⟨fs, hu, rfl⟩) (.inl ⟨fs, hu, rfl⟩) 10000 w (by omega), by simpa using hg⟩
  · cases hc
end Go.Vm
