import Derived.Test.YtmebdgliiickfaaVmK
set_option linter.all false
/- Each operation does in the model what the value machine says: two operands, one operand, parts. -/
namespace Go.Vm
variable {Γ : Nat → Option (List V)} {X : Ctx} {N : Nat} {ds : List Deferred} {σ : VS} {a : Act} {w w' : World} {G G' : GG} {St St' : Nat → Nat → Prop} {own : Nat → Prop} {P : Program} {K : Eff → Prop}

theorem Gives.mk {s : Sem Value} {e : Eff} {u : Value} (hK : K e) (hw : e.wr = []) (hr : s.run P w = .ok u w) (hv : repLv σ.mem G St (rdW w) e.val u) : Gives P σ G St w s K := ⟨e, u, hK, hw, hr, hv⟩

theorem isNil_ok (h : RepD Γ X N ds σ a w G St own) {x : L} {u : Value} {r : Bool} (hx : repLv σ.mem G St (rdW w) x u) (hr : isNil σ x = some r) : ∃ b n c, u = .slice b n c ∧ b.isNone = r := by
  unfold isNil at hr
  split at hr
  · cases hr; simp only [repLv] at hx; exact ⟨none, 0, 0, hx, rfl⟩
  · cases hr
    rcases psl hx with ⟨h, _⟩ | ⟨b, o, cap, sz, rfl, _, _⟩
    · cases h
    · exact ⟨_, _, _, rfl, rfl⟩
  · rename_i t g
    split at hr
    · rename_i q x xs hc
      cases hr
      have hm := curA_some hc
      have := h.arrVal hm hx
      obtain ⟨_, vs, ⟨_, ho⟩, _⟩ := h.arrs t g _ _ _ hm
      rcases ho with ⟨_, h0⟩ | ⟨blk, cap, cur, hav, _⟩
      · simp at h0
      · rw [this, hav]; exact ⟨_, _, _, rfl, rfl⟩
    · cases hr
  · cases hr
theorem isNilI_ok {x : L} {u : Value} {r : Bool} {mem : Key → M} {rd : Nat → Nat → Option Value} (hx : repLv mem G St rd x u) (hr : isNilI x = some r) : (u = .nilIface ∧ r = true) ∨ (∃ t v, u = .iface t v) ∧ r = false := by
  unfold isNilI at hr
  split at hr
  · cases hr
    obtain ⟨h1, h2⟩ := pval hx; simp only [repC] at h1
    exact .inl ⟨val_of_one h1 h2, rfl⟩
  · cases hr
    obtain ⟨h1, h2⟩ := pval hx; simp only [repC] at h1
    obtain ⟨y, e, _⟩ := h1
    exact .inr ⟨⟨_, _, val_of_one e h2⟩, rfl⟩
  · cases hr

theorem run_guard_ne {op : BinOp} {t : TypeId} {ox oy : Operand} {u v : Value} (h1 : u ≠ .nilIface ∨ v ≠ .nilIface) (h2 : (∀ c, u ≠ .agg c) ∨ ∀ c, v ≠ .agg c) (w : World) : (eqGuard op t ox oy u v).run P w = .ok () w := by
  cases op <;> simp only [eqGuard] <;> first | rfl | skip
  all_goals
    cases u <;> cases v <;> first | rfl | (simp at h1; done) | (simp at h2; done)
theorem run_guard_nil {op : BinOp} {t : TypeId} {ox oy : Operand} (hc : Operand.isConst oy = true) (w : World) : (eqGuard op t ox oy .nilIface .nilIface).run P w = .ok () w := by
  cases oy <;> simp [Operand.isConst] at hc
  cases op <;> simp [eqGuard]
theorem run_bin {op : BinOp} {t : TypeId} {ox oy : Operand} {u v r : Value} {w : World} (hg : (eqGuard op t ox oy u v).run P w = .ok () w) (hb : (binOp op t u v).run P w = .ok r w) : (do eqGuard op t ox oy u v; binOp op t u v : Sem Value).run P w = .ok r w := by
  rw [Sem.run_bind, hg]; exact hb
theorem run_equal_of {t : TypeId} {x y : Value} {r : Bool} {w : World} (h : ∀ d, (Op.equalIn (d + 1) t x y).run P w = .ok r w) : (Op.equal t x y).run P w = .ok r w := h 9999
theorem run_eql_of {t : TypeId} {x y : Value} {r : Bool} {w : World} (hb : binOp .eql t x y = (do pure (.bool (← Op.equal t x y)))) (h : ∀ d, (Op.equalIn (d + 1) t x y).run P w = .ok r w) : (binOp .eql t x y).run P w = .ok (.bool r) w := by
  rw [hb, Sem.run_bind, run_equal_of h]; rfl
theorem run_neq_of {t : TypeId} {x y : Value} {r : Bool} {w : World} (hb : binOp .neq t x y = (do pure (.bool (!(← Op.equal t x y))))) (h : ∀ d, (Op.equalIn (d + 1) t x y).run P w = .ok r w) : (binOp .neq t x y).run P w = .ok (.bool !r) w := by
  rw [hb, Sem.run_bind, run_equal_of h]; rfl
theorem run_eqIn_nn {t : TypeId} {ms : Array (String × TypeId)} (hu : P.underlying t = some (.interface ms)) (w : World) (d : Nat) : (Op.equalIn (d + 1) t .nilIface .nilIface).run P w = .ok true w := by
  simp [Op.equalIn, run_underlying hu]
theorem run_eqIn_in {t tt : TypeId} {x : Value} {ms : Array (String × TypeId)} (hu : P.underlying t = some (.interface ms)) (w : World) (d : Nat) : (Op.equalIn (d + 1) t (.iface tt x) .nilIface).run P w = .ok false w := by
  simp [Op.equalIn, run_underlying hu]
theorem run_eql_nn {t : TypeId} {ms : Array (String × TypeId)} (hu : P.underlying t = some (.interface ms)) (w : World) : (binOp .eql t .nilIface .nilIface).run P w = .ok (.bool true) w := run_eql_of rfl (run_eqIn_nn hu w)
theorem run_neq_nn {t : TypeId} {ms : Array (String × TypeId)} (hu : P.underlying t = some (.interface ms)) (w : World) : (binOp .neq t .nilIface .nilIface).run P w = .ok (.bool false) w := run_neq_of rfl (run_eqIn_nn hu w)
theorem run_eql_in {t tt : TypeId} {x : Value} {ms : Array (String × TypeId)} (hu : P.underlying t = some (.interface ms)) (w : World) : (binOp .eql t (.iface tt x) .nilIface).run P w = .ok (.bool false) w := run_eql_of rfl (run_eqIn_in hu w)
theorem run_neq_in {t tt : TypeId} {x : Value} {ms : Array (String × TypeId)} (hu : P.underlying t = some (.interface ms)) (w : World) : (binOp .neq t (.iface tt x) .nilIface).run P w = .ok (.bool true) w := run_neq_of rfl (run_eqIn_in hu w)

theorem RepD.bin (h : RepD Γ X N ds σ a w G St own) {t : TypeId} {op : BinOp} {x y : L} {ox oy : Operand} {u v : Value} (hx : repLv σ.mem G St (rdW w) x u) (hy : repLv σ.mem G St (rdW w) y v)
    (hk : vbin P t (Operand.isConst oy) σ op x y K) : Gives P σ G St w (do eqGuard op t ox oy u v; binOp op t u v) K := by
  unfold vbin at hk
  split at hk
  case h_1 k a k' b => obtain ⟨rfl, hK⟩ := need_iff.1 hk; rw [pint hx, pint hy]; exact .mk hK rfl (run_bin (run_guard_ne (.inl (by simp)) (.inl (by simp)) w) (by simp only [binOp]; simp [Op.intArith])) mk_int
  case h_2 k a k' b => obtain ⟨rfl, hK⟩ := need_iff.1 hk; rw [pint hx, pint hy]; exact .mk hK rfl (run_bin (run_guard_ne (.inl (by simp)) (.inl (by simp)) w) (by simp only [binOp]; simp [Op.intArith])) mk_int
  case h_3 k a k' b => obtain ⟨rfl, hK⟩ := need_iff.1 hk; rw [pint hx, pint hy]; exact .mk hK rfl (run_bin (run_guard_ne (.inl (by simp)) (.inl (by simp)) w) (by simp only [binOp]; simp [Op.intArith])) mk_int
  case h_4 k a k' b => obtain ⟨⟨rfl, hb⟩, hK⟩ := need_iff.1 hk; rw [pint hx, pint hy]; exact .mk hK rfl (run_bin (run_guard_ne (.inl (by simp)) (.inl (by simp)) w) (by simp only [binOp]; simp [Op.intDiv, hb])) mk_int
  case h_5 k a k' b => obtain ⟨⟨rfl, hb⟩, hK⟩ := need_iff.1 hk; rw [pint hx, pint hy]; exact .mk hK rfl (run_bin (run_guard_ne (.inl (by simp)) (.inl (by simp)) w) (by simp only [binOp]; simp [Op.intDiv, hb])) mk_int
  case h_6 k a k' b => obtain ⟨rfl, hK⟩ := need_iff.1 hk; rw [pint hx, pint hy]; exact .mk hK rfl (run_bin (run_guard_ne (.inl (by simp)) (.inl (by simp)) w) (by simp only [binOp]; simp [Op.intCmp])) mk_bool
  case h_7 k a k' b => obtain ⟨rfl, hK⟩ := need_iff.1 hk; rw [pint hx, pint hy]; exact .mk hK rfl (run_bin (run_guard_ne (.inl (by simp)) (.inl (by simp)) w) (by simp only [binOp]; simp [Op.intCmp])) mk_bool
  case h_8 k a k' b => obtain ⟨rfl, hK⟩ := need_iff.1 hk; rw [pint hx, pint hy]; exact .mk hK rfl (run_bin (run_guard_ne (.inl (by simp)) (.inl (by simp)) w) (by simp only [binOp]; simp [Op.intCmp])) mk_bool
  case h_9 k a k' b => obtain ⟨rfl, hK⟩ := need_iff.1 hk; rw [pint hx, pint hy]; exact .mk hK rfl (run_bin (run_guard_ne (.inl (by simp)) (.inl (by simp)) w) (by simp only [binOp]; simp [Op.intCmp])) mk_bool
  case h_10 k a k' b => obtain ⟨rfl, hK⟩ := need_iff.1 hk; rw [pint hx, pint hy]; exact .mk hK rfl (run_bin (run_guard_ne (.inl (by simp)) (.inl (by simp)) w) (by simp only [binOp]; simp [Op.intCmp])) mk_bool
  case h_11 k a k' b => obtain ⟨rfl, hK⟩ := need_iff.1 hk; rw [pint hx, pint hy]; exact .mk hK rfl (run_bin (run_guard_ne (.inl (by simp)) (.inl (by simp)) w) (by simp only [binOp]; simp [Op.intCmp])) mk_bool
  case h_12 a b =>
    obtain ⟨hs, hK⟩ := need_iff.1 hk; rw [pstr hx, pstr hy]
    have hs' : ¬ (a.size + b.size > 9223372036854775807) := by unfold maxBytes at hs; omega
    exact .mk hK rfl (run_bin (run_guard_ne (.inl (by simp)) (.inl (by simp)) w) (by simp only [binOp]; rw [run_string_add_if, if_neg hs'])) mk_str
  case h_13 a b => rw [pstr hx, pstr hy]; exact .mk hk rfl (run_bin (run_guard_ne (.inl (by simp)) (.inl (by simp)) w) (by simp only [binOp]; simp [Op.stringOp])) mk_bool
  case h_14 a b => rw [pstr hx, pstr hy]; exact .mk hk rfl (run_bin (run_guard_ne (.inl (by simp)) (.inl (by simp)) w) (by simp only [binOp]; simp [Op.stringOp])) mk_bool
  case h_15 a b =>
    obtain ⟨hb, hK⟩ := need_iff.1 hk; rw [pbool hx, pbool hy]
    have hu : P.underlying t = some .bool := by unfold isBool at hb; split at hb <;> first | assumption | cases hb
    exact .mk hK rfl (run_bin (run_guard_ne (.inl (by simp)) (.inl (by simp)) w) (run_eql_bool w t a b hu)) mk_bool
  case h_16 a b =>
    obtain ⟨hb, hK⟩ := need_iff.1 hk; rw [pbool hx, pbool hy]
    have hu : P.underlying t = some .bool := by unfold isBool at hb; split at hb <;> first | assumption | cases hb
    exact .mk hK rfl (run_bin (run_guard_ne (.inl (by simp)) (.inl (by simp)) w) (run_neq_bool w t a b hu)) mk_bool
  case h_17 a b =>
    obtain ⟨hc, hk⟩ := need_iff.1 hk
    obtain ⟨r, hr, hK⟩ := wantO_iff.1 hk
    obtain ⟨cx, rfl, hLx⟩ := pagg hx
    obtain ⟨cy, rfl, hLy⟩ := pagg hy
    obtain ⟨he, hg⟩ := cmpq_eq hc hr hLx hLy w
    exact .mk hK rfl (by simp [run_eqGuard_agg w _ t ox oy cx cy hg, run_eql_struct, he]) mk_bool
  case h_18 a b =>
    obtain ⟨hc, hk⟩ := need_iff.1 hk
    obtain ⟨r, hr, hK⟩ := wantO_iff.1 hk
    obtain ⟨cx, rfl, hLx⟩ := pagg hx
    obtain ⟨cy, rfl, hLy⟩ := pagg hy
    obtain ⟨he, hg⟩ := cmpq_eq hc hr hLx hLy w
    exact .mk hK rfl (by simp [run_eqGuard_agg w _ t ox oy cx cy hg, run_neq_struct, he]) mk_bool
  case h_19 =>
    obtain ⟨e, he, hk⟩ := wantO_iff.1 hk
    obtain ⟨r, hr, hK⟩ := wantO_iff.1 hk
    obtain ⟨b, n, c, rfl, hb⟩ := isNil_ok h hx hr
    simp only [repLv] at hy
    subst hy; subst hb
    exact .mk hK rfl (run_bin (run_guard_ne (.inl (by simp)) (.inl (by simp)) w) (Lib.run_eql_slice_nil _ t e b n c 0 0 (elq_some he))) mk_bool
  case h_20 =>
    obtain ⟨e, he, hk⟩ := wantO_iff.1 hk
    obtain ⟨r, hr, hK⟩ := wantO_iff.1 hk
    obtain ⟨b, n, c, rfl, hb⟩ := isNil_ok h hx hr
    simp only [repLv] at hy
    subst hy; subst hb
    exact .mk hK rfl (run_bin (run_guard_ne (.inl (by simp)) (.inl (by simp)) w) (run_neq_slice_nil _ t e b n c (elq_some he))) mk_bool
  case h_21 =>
    obtain ⟨⟨hi, hc⟩, hk⟩ := need_iff.1 hk
    obtain ⟨r, hr, hK⟩ := wantO_iff.1 hk
    have hv : v = .nilIface := by obtain ⟨h1, h2⟩ := pval hy; simp only [repC] at h1; exact val_of_one h1 h2
    subst hv
    obtain ⟨ms, hu⟩ : ∃ ms, P.underlying t = some (.interface ms) := by unfold isIfc at hi; split at hi <;> first | exact ⟨_, by assumption⟩ | cases hi
    rcases isNilI_ok hx hr with ⟨rfl, rfl⟩ | ⟨⟨tt, vv, rfl⟩, rfl⟩
    · exact .mk hK rfl (run_bin (run_guard_nil hc w) (run_eql_nn hu w)) mk_bool
    · exact .mk hK rfl (run_bin (run_guard_ne (.inl (by simp)) (.inl (by simp)) w) (run_eql_in hu w)) mk_bool
  case h_22 =>
    obtain ⟨⟨hi, hc⟩, hk⟩ := need_iff.1 hk
    obtain ⟨r, hr, hK⟩ := wantO_iff.1 hk
    have hv : v = .nilIface := by obtain ⟨h1, h2⟩ := pval hy; simp only [repC] at h1; exact val_of_one h1 h2
    subst hv
    obtain ⟨ms, hu⟩ : ∃ ms, P.underlying t = some (.interface ms) := by unfold isIfc at hi; split at hi <;> first | exact ⟨_, by assumption⟩ | cases hi
    rcases isNilI_ok hx hr with ⟨rfl, rfl⟩ | ⟨⟨tt, vv, rfl⟩, rfl⟩
    · exact .mk hK rfl (run_bin (run_guard_nil hc w) (run_neq_nn hu w)) mk_bool
    · exact .mk hK rfl (run_bin (run_guard_ne (.inl (by simp)) (.inl (by simp)) w) (run_neq_in hu w)) mk_bool
  · exact hk.elim

theorem RepD.un {op : UnOp} {x : L} {u : Value} (hx : repLv σ.mem G St (rdW w) x u) (hk : vun op x K) : Gives P σ G St w (Op.unary op u) K := by
  unfold vun at hk
  split at hk
  · rw [pbool hx]; exact .mk hk rfl (by simp [Op.unary]) mk_bool
  · rw [pint hx]; exact .mk hk rfl (by simp [Op.unary, Op.intArith]) mk_int
  · exact hk.elim

theorem RepD.conv {s d : TypeId} {x : L} {u : Value} (hx : repLv σ.mem G St (rdW w) x u) (hk : vconv P s d x K) : Gives P σ G St w (convert s d u) K := by
  unfold vconv at hk
  split at hk
  · rename_i h1 h2
    rw [pint hx]; exact .mk hk rfl (by simp [convert, run_underlying h1, run_underlying h2, Conv.intToInt]) mk_int
  · exact hk.elim

theorem RepD.extr {i : Nat} {x : L} {u : Value} (hx : repLv σ.mem G St (rdW w) x u) (hk : vextract x i K) : Gives P σ G St w (Instr.extract u i) K := by
  unfold vextract at hk
  split at hk
  · rename_i ls
    obtain ⟨l, hl, hK⟩ := wantO_iff.1 hk
    simp only [repLv] at hx
    obtain ⟨vs, rfl, hL⟩ := hx
    obtain ⟨h1, h2⟩ := repLs_get.1 hL
    have hil : i < vs.toList.length := by rw [← h1]; exact (List.getElem?_eq_some_iff.1 hl).1
    have hvi : vs[i]? = some vs.toList[i] := by simp
    exact .mk hK rfl (u := vs.toList[i]) (by simp only [Instr.extract, hvi]; rfl) (h2 i l _ hl (by simp))
  · exact hk.elim

theorem RepD.fieldv (h : RepD Γ X N ds σ a w G St own) {t f : Nat} {x : L} {u : Value} (hx : repLv σ.mem G St (rdW w) x u) (hk : vfield P t x f K) : Gives P σ G St w (Instr.field t u f) K := by
  unfold vfield at hk
  obtain ⟨⟨e, off, n⟩, hq, hk⟩ := wantO_iff.1 hk
  obtain ⟨fs, fl, m, q1, q2, q3, q4, q5, q6⟩ := flq_some hq
  simp only at q3 q4 q6 hk
  have hagg : ∃ cs, u = .agg cs := by
    unfold vpart at hk
    obtain ⟨n', hn', hk1⟩ := wantO_iff.1 hk
    obtain ⟨ag, ha, hk2⟩ := wantO_iff.1 hk1
    split at hk2
    · obtain ⟨vs, e, _⟩ := pagg hx; exact ⟨vs, e⟩
    · simp only [repLv] at hx; obtain ⟨vs, e, _⟩ := hx; exact ⟨vs, e⟩
    · exact hk2.elim
  obtain ⟨cs, rfl⟩ := hagg
  obtain ⟨e', u', hK, hw, hr, hv⟩ := h.part hx hk
  subst q3; subst q4
  exact ⟨e', u', hK, hw, by simp [Instr.field, run_underlying q1, q2, asAgg, hr], hv⟩

theorem RepD.indexv (h : RepD Γ X N ds σ a w G St own) {t : TypeId} {x i : L} {u v : Value} (hx : repLv σ.mem G St (rdW w) x u) (hi : repLv σ.mem G St (rdW w) i v) (hk : vindex P t x i K) : Gives P σ G St w (Instr.index t u v) K := by
  unfold vindex at hk
  split at hk
  · rename_i s k n
    obtain ⟨⟨h1, h2, h3⟩, hK⟩ := need_iff.1 hk
    have hu : P.underlying t = some .string := by unfold isStr at h1; split at h1 <;> first | assumption | cases h1
    rw [pstr hx, pint hi]
    have hlt : n.toNat < s.size := by omega
    have hb : s[n.toNat]! = s[n.toNat] := by simp [hlt]
    have hq : s[n.toNat]? = some s[n.toNat] := by simp [hlt]
    refine .mk hK rfl (u := .int .u8 (s[n.toNat]!).toNat) ?_ mk_int
    simp [Instr.index, run_underlying hu, asIntOf, h2, hq, hb]
  · rename_i k n _
    obtain ⟨⟨len, e⟩, he, hk⟩ := wantO_iff.1 hk
    obtain ⟨es, hes, hk⟩ := wantO_iff.1 hk
    obtain ⟨⟨h1, h2⟩, hk⟩ := need_iff.1 hk
    have hagg : ∃ cs, u = .agg cs := by
      unfold vpart at hk
      obtain ⟨n', hn', hk1⟩ := wantO_iff.1 hk
      obtain ⟨ag, ha, hk2⟩ := wantO_iff.1 hk1
      split at hk2
      · obtain ⟨vs, e, _⟩ := pagg hx; exact ⟨vs, e⟩
      · simp only [repLv] at hx; obtain ⟨vs, e, _⟩ := hx; exact ⟨vs, e⟩
      · exact hk2.elim
    obtain ⟨cs, rfl⟩ := hagg
    obtain ⟨e', u', hK, hw, hr, hv⟩ := h.part hx hk
    rw [pint hi]
    exact ⟨e', u', hK, hw, by simp [Instr.index, run_underlying (arq_some he), asIntOf, h1, h2, run_sizeOf hes, hr], hv⟩
  · exact hk.elim
end Go.Vm
