import Derived.Test.YtmebdgliiickfaaVmZb
set_option linter.all false
/- One operation at a time: what follows stands behind a variable. -/
namespace Go.Vm
variable {Γ : Nat → Option (List V)} {P : Program} {Sp : FuncId → List V → R → Prop} {σ : VS} {K : VS → Prop} {ops : Array Oper} {r : List Oper} {tr : List Tr} {t0 : TypeId} {p : String} {af : Array Edge} {d : Option Tmp} {op : Op}
theorem s_one (h : ∀ X : Eff → Prop, (∀ e, vops P Γ Sp ops r (σ.apply d e) K → X e) → vop P Γ Sp σ d op X) : vops P Γ Sp ops (⟨d, op, t0, p, af, none⟩ :: r) σ K := h _ fun _ k => k
theorem d_one (h : ∀ X : Eff → Prop, (∀ e, vopsD P Γ Sp ops r (e.tr :: tr) (σ.apply d e) K → X e) → vop P Γ Sp σ d op X) : vopsD P Γ Sp ops (⟨d, op, t0, p, af, none⟩ :: r) tr σ K := h _ fun _ k => k
theorem s_oneg {j : Nat} {want : Bool} (h : ∀ X : Eff → Prop, (∀ e, vops P Γ Sp ops r (σ.apply d e) K → X e) → wantO (gdst ops j) fun g => vguard (σ.get g) want (vop P Γ Sp σ d op X) (X noEff)) : vops P Γ Sp ops (⟨d, op, t0, p, af, some (j, want)⟩ :: r) σ K := h _ fun _ k => k
theorem d_oneg {j : Nat} {want : Bool} (h : ∀ X : Eff → Prop, (∀ e, vopsD P Γ Sp ops r (e.tr :: tr) (σ.apply d e) K → X e) → wantO (gdst ops j) fun g => vguard (σ.get g) want (vop P Γ Sp σ d op X) (X noEff)) : vopsD P Γ Sp ops (⟨d, op, t0, p, af, some (j, want)⟩ :: r) tr σ K := h _ fun _ k => k
def vw :=
  (And.intro (And.intro (And.intro (And.intro @vop_alloc @vop_append) (And.intro @vop_assign @vop_bin)) (And.intro (And.intro @vop_box @vop_build) (And.intro @vop_buildSlice @vop_call))) (And.intro (And.intro (And.intro (And.intro @vop_conv @vop_extract) (And.intro @vop_field @vop_fieldAddr)) (And.intro (And.intro @vop_index @vop_indexAddr) (And.intro @vop_len @vop_load))) (And.intro (And.intro (And.intro @vop_makeFunc @vop_makeSlice) (And.intro @vop_max @vop_min)) (And.intro (And.intro @vop_move @vop_pick) (And.intro (And.intro @vop_slice @vop_store) @vop_un)))))
end Go.Vm
