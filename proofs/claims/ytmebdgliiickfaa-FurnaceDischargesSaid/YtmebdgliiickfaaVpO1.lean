import Derived.Test.YtmebdgliiickfaaVmBC
import Derived.Test.YtmebdgliiickfaaVpXb
set_option linter.all false
namespace Go.Vm
open Go.Proofs
set_option maxRecDepth 20000
set_option maxHeartbeats 8000000
@[reducible] def capG (ps : List (Int × Int)) (mix lo hh : Int) (xs : List Int) (b : Int) (route : List (Int × Int)) (ta tb : Int) : List V := [.ref [.sl (ps.map p2), nn mix, nn lo, nn hh], .ref [.sl (xs.map nn), nn b], .ref [.sl (route.map p2), nn ta, nn tb]]
theorem spec133 (ps : List (Int × Int)) (mix lo hh : Int) (xs : List Int) (b : Int) (route : List (Int × Int)) (ta tb : Int) : Sp0 133 [.agg [.sl (ps.map p2), nn mix, nn lo, nn hh], .agg [.sl (xs.map nn), nn b], .agg [.sl (route.map p2), nn ta, nn tb]] (R.v (.fn 164 [] (capG ps mix lo hh xs b route ta tb))) := by
  refine spec_of mixed (fun _ _ _ h => h) Try.func133 (by decide +kernel) rfl (rs := _) rfl rfl (by simp [Try.f133]) (by decide +kernel) ?_; simp only [argsG, Nat.zero_add, Nat.reduceAdd]
  refine c_reg fun K hK => ?_
  simp (maxSteps := 2000000) only [vm, vr, reduceIte, Nat.reduceEqDiff, Nat.reduceAdd, reduceCtorEq]
  refine need_by (by first | assumption | omega | (simp; done) | (simp; omega)) ?_
  refine need_by (by first | assumption | omega | (simp; done) | (simp; omega)) ?_
  refine need_by (by first | assumption | omega | (simp; done) | (simp; omega)) ?_
  (refine hK _ ?_; clear hK; clear K)
  refine c_reg fun K hK => ?_
  simp (maxSteps := 2000000) only [vm, vr, reduceIte, Nat.reduceEqDiff, Nat.reduceAdd, reduceCtorEq]
  (refine hK _ ?_; clear hK; clear K)
  refine c_ret1 ?_
  simp (maxSteps := 2000000) only [vm, vr, reduceIte, Nat.reduceEqDiff, reduceCtorEq]
/-- The enclosure after further steps in the last zone. -/
def furE (ps : List (Int × Int)) (mix lo hh b : Int) (xs : List Int) (route : List (Int × Int)) (n : Nat) : List Int × List Int := encSteps ps mix lo hh b (route.getD (route.length - 1) default).1 (encN ps mix lo hh b (xs, xs) route route.length) n
def sureV (x : List Int × List Int) (ta tb : Int) : Bool := !decide (minV x.1 x.1.length < ta) && !decide (maxV x.2 x.2.length > tb)
def furY (ps : List (Int × Int)) (mix lo hh b : Int) (xs : List Int) (route : List (Int × Int)) (ta tb : Int) : List (List V) := (List.range 201).map fun n : Nat => [nn (n : Nat), .b (sureV (furE ps mix lo hh b xs route n) ta tb)]
abbrev SpI : FuncId → List V → List (List V) → Prop := SpecI Try.prog Γ0
theorem furE_ok {ps : List (Int × Int)} {mix lo hh b : Int} {xs : List Int} {route : List (Int × Int)} (h : EncR ps mix lo hh b xs route) (h1 : 1 ≤ route.length) (n : Nat) : EncI xs.length (furE ps mix lo hh b xs route n) :=
  encI_steps h.tab h.mix h.bot h.lo h.hi (h.rt _ (by omega)).1 h.len.1 (h.all (Nat.le_refl _)) n
theorem furY_len {ps : List (Int × Int)} {mix lo hh b : Int} {xs : List Int} {route : List (Int × Int)} {ta tb : Int} : (furY ps mix lo hh b xs route ta tb).length = 201 := by simp [furY]
theorem furY_get {ps : List (Int × Int)} {mix lo hh b : Int} {xs : List Int} {route : List (Int × Int)} {ta tb : Int} {n : Nat} (h : n < 201) : (furY ps mix lo hh b xs route ta tb)[n]? = some [nn n, .b (sureV (furE ps mix lo hh b xs route n) ta tb)] := by
  simp [furY, h]
theorem speci164 (ps : List (Int × Int)) (mix lo hh : Int) (xs : List Int) (b : Int) (route : List (Int × Int)) (ta tb : Int) (h : EncR ps mix lo hh b xs route) (h1 : 1 ≤ route.length) : SpI 164 (capG ps mix lo hh xs b route ta tb) (furY ps mix lo hh b xs route ta tb) := by
  refine specI_of mixed (fun _ _ _ h => h) Try.func164 (by decide +kernel) rfl rfl rfl (by simp [Try.f164]) (by decide +kernel) fun l => ?_; simp only [argsG, Nat.zero_add, Nat.reduceAdd]
  have t1 := h.tab
  have t2 := h.mix
  have t3 := h.lo
  have t4 := h.hi
  have t5 := h.bot
  have hrl : route.length < 1000000 := by have := h.rlen; omega
  have hrt := h.rt
  have hN : ∀ i, i < route.length → ∀ k, k < (route.getD i default).2.toNat → BothOk (encSteps ps mix lo hh b (route.getD i default).1 (encN ps mix lo hh b (xs, xs) route i) k) := fun i hi k _ => (h.some hi k).ok h.len
  refine c_reg fun K hK => ?_
  simp (maxSteps := 2000000) only [vm, vr, q164, reduceIte, Nat.reduceEqDiff, Nat.reduceAdd, Nat.reduceLeDiff, reduceCtorEq]
  refine need_by (by first | assumption | omega | (simp; done) | (simp; omega)) ?_
  (refine hK _ ?_; clear hK; clear K)
  refine c_reg fun K hK => ?_
  simp (maxSteps := 2000000) only [vm, vr, q164, reduceIte, Nat.reduceEqDiff, Nat.reduceAdd, Nat.reduceLeDiff, reduceCtorEq]
  (apply s_call (spec126 _ _ _ _ _ _ _ ?s3301x1 ?s3301x2 ?s3301x3 ?s3301x4 ?s3301x5 ?s3301x6 ?s3301x7 ?s3301x8); (case hf => rfl); (case hq => (simp (maxSteps := 2000000) only [vm, reduceIte, Nat.reduceEqDiff, reduceCtorEq]; rfl)); (case hvs => rfl); (case s3301x1 => first | assumption | omega | (simp; done) | (simp; omega)); (case s3301x2 => first | assumption | omega | (simp; done) | (simp; omega)); (case s3301x3 => first | assumption | omega | (simp; done) | (simp; omega)); (case s3301x4 => first | assumption | omega | (simp; done) | (simp; omega)); (case s3301x5 => first | assumption | omega | (simp; done) | (simp; omega)); (case s3301x6 => first | assumption | omega | (simp; done) | (simp; omega)); (case s3301x7 => first | assumption | omega | (simp; done) | (simp; omega)); (case s3301x8 => first | assumption | omega | (simp; done) | (simp; omega)))
  simp (maxSteps := 2000000) only [vm, vr, q164, reduceIte, Nat.reduceEqDiff, Nat.reduceAdd, Nat.reduceLeDiff, reduceCtorEq]
  refine need_by (by first | assumption | omega | (simp; done) | (simp; omega)) ?_
  (refine hK _ ?_; clear hK; clear K)
  refine c_reg fun K hK => ?_
  simp (maxSteps := 2000000) only [vm, vr]
  (refine hK _ ?_; clear hK; clear K)
  refine c_block1 ?_
  refine vcode_loop (fun n : Nat => [(0, L.p (V.yld l)), (3, L.p (V.ref [V.sl (List.map p2 route), nn ta, nn tb])), (5, L.own 5 0), (6, L.own 6 0), (18, L.p (V.i IntKind.i64 n))]) (fun n => [(Key.c 6 0, M.cell (L.p (V.sl (List.map nn (furE ps mix lo hh b xs route n).fst)))), (Key.c 6 1, M.cell (L.p (V.sl (List.map nn (furE ps mix lo hh b xs route n).snd)))), (Key.b 6, M.box 2), (Key.c 5 0, M.cell (L.p (V.sl (List.map p2 ps)))), (Key.c 5 1, M.cell (L.p (nn mix))), (Key.c 5 2, M.cell (L.p (nn lo))), (Key.c 5 3, M.cell (L.p (nn hh))), (Key.c 5 4, M.cell (L.p (V.i IntKind.i64 b))), (Key.b 5, M.box 5), (Key.y, M.cnt n)]) (fun n => n ≤ 201) (fun n => 201 - n) 0 (Nat.zero_le _) ?_ ?_
  · simp (maxSteps := 2000000) only [vm, vr, furE, encSteps, vmk, reduceIte, Nat.reduceEqDiff, Nat.reduceAdd, Nat.reduceLT, reduceCtorEq]
  · rintro n hn
    rcases Nat.lt_or_ge n 201 with hl | hl
    · have hk : decide ((n : Int) < 201) = true := decide_eq_true (by omega)
      obtain ⟨E, hE⟩ : ∃ E, E = furE ps mix lo hh b xs route n := ⟨_, rfl⟩
      have hEI : EncI xs.length E := hE ▸ furE_ok h h1 n
      have hnx : encSteps ps mix lo hh b (route.getD (route.length - 1) default).1 (E.1, E.2) (Int.toNat 1) = furE ps mix lo hh b xs route (n + 1) := by rw [hE]; rfl
      have hs := (h.rt (route.length - 1) (by omega)).1
      have hN1 : ∀ k, k < Int.toNat 1 → BothOk (encSteps ps mix lo hh b (route.getD (route.length - 1) default).1 (E.1, E.2) k) := fun k hk => by
        have : k = 0 := by simp at hk; exact hk
        subst this
        exact hEI.ok h.len
      have e1 : 1 ≤ E.1.length := by have := hEI.len; have := h.len; omega
      have e2 : E.1.length < 1000000 := by have := hEI.len; have := h.len; omega
      have e3 : 1 ≤ E.2.length := by have := hEI.le.1; have := hEI.len; have := h.len; omega
      have e4 : E.2.length < 1000000 := by have := hEI.le.1; have := hEI.len; have := h.len; omega
      rw [← hE]
      refine c_reg fun K hK => ?_
      simp (maxSteps := 2000000) only [vm, vr, hk, reduceIte, Nat.reduceEqDiff, reduceCtorEq]
      (refine hK _ ?_; clear hK; clear K)
      refine c_if _ rfl (fun hb1 => ?_) (fun hb1 => ?_) <;> (have hp1 := hb1; try simp only [] at hp1)
      refine c_skip ?_
      refine c_block ?_
      refine c_reg fun K hK => ?_
      simp (maxSteps := 2000000) only [vm, vr, reduceIte, Nat.reduceEqDiff, reduceCtorEq]
      (refine hK _ ?_; clear hK; clear K)
      refine c_assoc ?_
      refine c_yreg _ _ _ (ysplit 6 rfl) fun K hK => ?_
      simp (maxSteps := 2000000) only [vm, vr, q164, reduceIte, Nat.reduceEqDiff, Nat.reduceAdd, Nat.reduceLeDiff, reduceCtorEq]
      (apply s_call (spec147 _ _ _ _ ?s5201x1 ?s5201x2 ?s5201x3 ?s5201x4); (case hf => rfl); (case hq => (simp (maxSteps := 2000000) only [vm, reduceIte, Nat.reduceEqDiff, reduceCtorEq]; rfl)); (case hvs => rfl); (case s5201x1 => first | assumption | omega | (simp; done) | (simp; omega)); (case s5201x2 => first | assumption | omega | (simp; done) | (simp; omega)); (case s5201x3 => first | assumption | omega | (simp; done) | (simp; omega)); (case s5201x4 => first | assumption | omega | (simp; done) | (simp; omega)))
      simp (maxSteps := 2000000) only [vm, vr]
      (apply vyl_y; (case hf => rfl); (case hq => (simp (maxSteps := 2000000) only [vm, reduceIte, Nat.reduceEqDiff, reduceCtorEq]; rfl)); (case hi => rfl))
      rotate_left
      simp (maxSteps := 2000000) only [vm, vr, reduceIte, Nat.reduceEqDiff, reduceCtorEq]
      (refine hK _ ?_; clear hK; clear K)
      refine c_if _ rfl (fun hb2 => ?_) (fun hb2 => ?_) <;> (have hp2 := hb2; try simp only [] at hp2)
      cases hb2
      refine c_skip ?_
      refine c_draw1 fun K hK => ?_
      simp (maxSteps := 2000000) only [vm, vr, q164, reduceIte, Nat.reduceEqDiff, Nat.reduceAdd, Nat.reduceLeDiff, reduceCtorEq]
      simp (disch := omega) only [wr64]
      (refine atI_map default (by first | assumption | omega | (simp; done) | (simp; omega)) (by first | assumption | omega | (simp; done) | (simp; omega)) ?_; simp (maxSteps := 2000000) only [vm, vr, vp, q164, Nat.reduceAdd])
      (apply d_call (spec162 _ _ _ _ _ _ _ _ _ ?s5202x1 ?s5202x2 ?s5202x3 ?s5202x4 ?s5202x5 ?s5202x6 ?s5202x7 ?s5202x8); (case hf => rfl); (case hq => (simp (maxSteps := 2000000) only [vm, reduceIte, Nat.reduceEqDiff, reduceCtorEq]; rfl)); (case hvs => rfl); (case s5202x1 => first | assumption | omega | (simp; done) | (simp; omega)); (case s5202x2 => first | assumption | omega | (simp; done) | (simp; omega)); (case s5202x3 => first | assumption | omega | (simp; done) | (simp; omega)); (case s5202x4 => first | assumption | omega | (simp; done) | (simp; omega)); (case s5202x5 => first | assumption | omega | (simp; done) | (simp; omega)); (case s5202x6 => first | assumption | omega | (simp; done) | (simp; omega)); (case s5202x7 => first | assumption | omega | (simp; done) | (simp; omega)); (case s5202x8 => first | assumption | omega | (simp; done) | (simp; omega)))
      simp (maxSteps := 2000000) only [vm, vr, q164, reduceIte, Nat.reduceEqDiff, Nat.reduceAdd, Nat.reduceLeDiff, reduceCtorEq]
      (refine draw_ok (by decide +kernel) (hK _ ?_); clear hK; clear K)
      simp only [thenV_n, blockV_n]
      refine c_reg1 fun K hK => ?_
      simp (maxSteps := 2000000) only [vm, vr, reduceIte, Nat.reduceEqDiff, reduceCtorEq]
      (simp (disch := omega) only [wr64]; try simp (maxSteps := 2000000) only [vm, vr, vp, q164, hk, furY_len, hb1, hb2, Int.reduceBNe, Int.reduceBEq, Int.reduceLT, Int.reduceLE, Int.reduceGT, Int.reduceGE, decide_true, decide_false, bne_self_eq_false, beq_self_eq_true, reduceIte, Nat.reduceEqDiff, Nat.reduceAdd, Nat.reduceLeDiff, Nat.reduceMul, Nat.reduceLT, reduceCtorEq])
      (refine hK _ ?_; clear hK; clear K)
      simp only [thenV_n]
      rotate_left
      simp (maxSteps := 2000000) only [vm, vr, reduceIte, Nat.reduceEqDiff, reduceCtorEq]
      (refine hK _ ?_; clear hK; clear K)
      refine c_if _ rfl (fun hb3 => ?_) (fun hb3 => ?_) <;> (have hp3 := hb3; try simp only [] at hp3)
      refine c_ret ?_
      simp only [thenV_r, blockV_r]
      simp (maxSteps := 2000000) only [vm, vr, furY_len, reduceIte, reduceCtorEq]
      rotate_left
      cases hb3
      cases hb1
      · exact ⟨rfl, by rw [furY_get hl, sureV, hE]⟩
      · refine ⟨n + 1, ?_, by omega, by omega⟩
        rw [hnx]
        (simp (maxSteps := 2000000) only [vm, vr, vmk, reduceIte, Nat.reduceEqDiff, Nat.reduceAdd, Nat.reduceLT, reduceCtorEq]; try simp (disch := omega) only [wr64]; try omega)
        rfl
      · exact .inr trivial
    · have hk : decide ((n : Int) < 201) = false := decide_eq_false (by omega)
      refine c_reg fun K hK => ?_
      simp (maxSteps := 2000000) only [vm, vr, hk, reduceIte, Nat.reduceEqDiff, reduceCtorEq]
      (refine hK _ ?_; clear hK; clear K)
      refine c_if _ rfl (fun hb1 => ?_) (fun hb1 => ?_) <;> (have hp1 := hb1; try simp only [] at hp1)
      cases hb1
      refine c_exit ?_
      simp only [thenV_e, blockV_e, reduceIte]
      simp (maxSteps := 2000000) only [vm, vr, furY_len, reduceIte, reduceCtorEq]
      exact .inl (by rw [show n = 201 by omega])
end Go.Vm
