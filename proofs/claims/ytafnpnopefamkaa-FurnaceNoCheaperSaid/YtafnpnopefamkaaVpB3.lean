import Derived.Test.YtafnpnopefamkaaVmBC
import Derived.Test.YtafnpnopefamkaaVpB2
set_option linter.all false
namespace Go.Vm
open Go.Proofs
open Nat renaming reduceEqDiff → rE, reduceAdd → rA, reduceLeDiff → rL, reduceLT → rT, reduceMul → rM
set_option maxRecDepth 20000
set_option maxHeartbeats 8000000
--DEF Q = q23
--DEF BUC = .sl (List.map p2 ps), nn mix, nn lo, nn hi, nn b, .sl (List.map nn xs), .sl (List.map lsV x.sets), .sl (List.map nn x.steps), .sl (List.map nn x.prices), nn x.lo, nn x.hi
--DEF BUR = V.sl (List.map p2 ps); nn mix; nn lo; nn hi; nn b; V.sl (List.map nn xs); V.sl (List.map lsV x.sets); V.sl (List.map nn x.steps); V.sl (List.map nn x.prices); nn x.lo; nn x.hi
--DEF CLM = .agg [.sl (x.sets.map lsV), .sl (x.steps.map nn), .sl (x.prices.map nn), nn x.lo, nn x.hi, .sl (c.map nn), .sl (C.map lsV), .sl (H.map lsV)]
--DEF RUS = .agg [.sl (ps.map p2), nn mix, nn lo, nn hi], .agg [.sl (xs.map nn), nn b]
def cldC (ps : List (Int × Int)) (mix lo hi b : Int) (xs : List Int) (x : Fue) (c : List Int) : Bool := decide (minV (encC ps mix lo hi b xs x c).1 (encC ps mix lo hi b xs x c).1.length < x.lo)
def hotC (ps : List (Int × Int)) (mix lo hi b : Int) (xs : List Int) (x : Fue) (c : List Int) : Bool := decide (maxV (encC ps mix lo hi b xs x c).2 (encC ps mix lo hi b xs x c).2.length > x.hi)
theorem spec56 (ps : List (Int × Int)) (mix lo hi b : Int) (xs : List Int) (x : Fue) (c : List Int) (h1 : rulesErrV ps mix lo hi = 0) (h2 : slabErrV xs b = 0) (h : FueOk x) (hc : ChoOk x c) : Sp0 56 [.sl (c.map nn), .ref [.sl (List.map p2 ps), nn mix, nn lo, nn hi, nn b, .sl (List.map nn xs), .sl (List.map lsV x.sets), .sl (List.map nn x.steps), .sl (List.map nn x.prices), nn x.lo, nn x.hi], .ref [nn x.lo, nn x.hi]] (R.v (.b (!cldC ps mix lo hi b xs x c))) := by
 obtain ⟨o5, o6, _⟩ := slab_ok h2
 obtain ⟨k1, k2⟩ := enc_len h1 h2 h hc
 have hs49 := spec49 ps mix lo hi b xs x c h1 h2 h hc
 have hs50 := spec50 (encC ps mix lo hi b xs x c).1 (encC ps mix lo hi b xs x c).2 x.lo x.hi (by omega) (by omega)
 refine spec_of mixed (fun _ _ _ h => h) Try.func56 (by decide +kernel) rfl (rs := _) rfl (by rfl) rfl (by simp [Try.f56]) (by decide +kernel) ?_; simp only [argsG, Nat.zero_add, rA]
 refine c_reg fun K hK => ?_
 simp only [vm]
 apply hK; clear hK K
 refine c_draw fun K hK => ?_
 simp only [vm, q56, reduceIte, rE, rA, reduceCtorEq]
 (apply d_call (hs49); (case hf => rfl); (case hq => (simp only [vm, reduceIte, rE, reduceCtorEq]; rfl)); (case hvs => rfl))
 simp only [vm, q56, reduceIte, rE, rA, reduceCtorEq]
 (apply d_call (hs50); (case hf => rfl); (case hq => (simp only [vm, reduceIte, rE, reduceCtorEq]; rfl)); (case hvs => rfl))
 simp only [vm, reduceIte, rE, reduceCtorEq]
 (refine draw_ok (by decide +kernel) (hK _ ?_); clear hK; clear K)
 refine c_ret1 ?_
 simp only [vx, reduceIte, rE, reduceCtorEq]
 rfl
theorem spec57 (ps : List (Int × Int)) (mix lo hi b : Int) (xs : List Int) (x : Fue) (c : List Int) (h1 : rulesErrV ps mix lo hi = 0) (h2 : slabErrV xs b = 0) (h : FueOk x) (hc : ChoOk x c) : Sp0 57 [.sl (c.map nn), .ref [.sl (List.map p2 ps), nn mix, nn lo, nn hi, nn b, .sl (List.map nn xs), .sl (List.map lsV x.sets), .sl (List.map nn x.steps), .sl (List.map nn x.prices), nn x.lo, nn x.hi], .ref [nn x.lo, nn x.hi]] (R.v (.b (!hotC ps mix lo hi b xs x c))) := by
 obtain ⟨o5, o6, _⟩ := slab_ok h2
 obtain ⟨k1, k2⟩ := enc_len h1 h2 h hc
 have hs49 := spec49 ps mix lo hi b xs x c h1 h2 h hc
 have hs58 := spec58 (encC ps mix lo hi b xs x c).1 (encC ps mix lo hi b xs x c).2 x.lo x.hi (by omega) (by omega)
 refine spec_of mixed (fun _ _ _ h => h) Try.func57 (by decide +kernel) rfl (rs := _) rfl (by rfl) rfl (by simp [Try.f57]) (by decide +kernel) ?_; simp only [argsG, Nat.zero_add, rA]
 refine c_reg fun K hK => ?_
 simp only [vm]
 apply hK; clear hK K
 refine c_draw fun K hK => ?_
 simp only [vm, q57, reduceIte, rE, rA, reduceCtorEq]
 (apply d_call (hs49); (case hf => rfl); (case hq => (simp only [vm, reduceIte, rE, reduceCtorEq]; rfl)); (case hvs => rfl))
 simp only [vm, q57, reduceIte, rE, rA, reduceCtorEq]
 (apply d_call (hs58); (case hf => rfl); (case hq => (simp only [vm, reduceIte, rE, reduceCtorEq]; rfl)); (case hvs => rfl))
 simp only [vm, reduceIte, rE, reduceCtorEq]
 (refine draw_ok (by decide +kernel) (hK _ ?_); clear hK; clear K)
 refine c_ret1 ?_
 simp only [vx, reduceIte, rE, reduceCtorEq]
 rfl
theorem spec59 (l c : List Int) (h : l.length = c.length) (hl : l.length < 1000000) : Sp0 59 [.sl (c.map nn), .ref [.sl (l.map nn)]] (R.v (.b (belB l c))) := by
 have hs60 := spec60 l c h hl
 refine spec_of mixed (fun _ _ _ h => h) Try.func59 (by decide +kernel) rfl (rs := _) rfl (by rfl) rfl (by simp [Try.f59]) (by decide +kernel) ?_; simp only [argsG, Nat.zero_add]
 refine c_reg fun K hK => ?_
 simp only [vm]
 apply hK; clear hK K
 refine c_reg fun K hK => ?_
 simp only [vm, q59, reduceIte, rE, reduceCtorEq]
 (apply s_call (hs60); (case hf => rfl); (case hq => (simp only [vm, reduceIte, rE, reduceCtorEq]; rfl)); (case hvs => rfl))
 simp only [vm, reduceIte, rE, reduceCtorEq]
 apply hK; clear hK K
 refine c_ret1 ?_
 simp only [vx, reduceIte, rE, reduceCtorEq]
theorem spec61 (l c : List Int) (h : c.length = l.length) (hl : c.length < 1000000) : Sp0 61 [.sl (c.map nn), .ref [.sl (l.map nn)]] (R.v (.b (belB c l))) := by
 have hs60 := spec60 c l h hl
 refine spec_of mixed (fun _ _ _ h => h) Try.func61 (by decide +kernel) rfl (rs := _) rfl (by rfl) rfl (by simp [Try.f61]) (by decide +kernel) ?_; simp only [argsG, Nat.zero_add]
 refine c_reg fun K hK => ?_
 simp only [vm]
 apply hK; clear hK K
 refine c_reg fun K hK => ?_
 simp only [vm, q61, reduceIte, rE, reduceCtorEq]
 (apply s_call (hs60); (case hf => rfl); (case hq => (simp only [vm, reduceIte, rE, reduceCtorEq]; rfl)); (case hvs => rfl))
 simp only [vm, reduceIte, rE, reduceCtorEq]
 apply hK; clear hK K
 refine c_ret1 ?_
 simp only [vx, reduceIte, rE, reduceCtorEq]
theorem getD_mem {L : List (List Int)} {i : Nat} (h : i < L.length) : L.getD i default ∈ L := by
 rw [List.getD_eq_getElem?_getD, List.getElem?_eq_getElem h]; exact List.getElem_mem h
theorem any_1 (ps : List (Int × Int)) (mix lo hi b : Int) (xs : List Int) (x : Fue) (C : List (List Int)) (h1 : rulesErrV ps mix lo hi = 0) (h2 : slabErrV xs b = 0) (h : FueOk x) (hC : ∀ c ∈ C, ChoOk x c) (hl : C.length < 1000000) : Sp0 55 [.sl (C.map lsV), .fn 56 [] [.ref [.sl (List.map p2 ps), nn mix, nn lo, nn hi, nn b, .sl (List.map nn xs), .sl (List.map lsV x.sets), .sl (List.map nn x.steps), .sl (List.map nn x.prices), nn x.lo, nn x.hi], .ref [nn x.lo, nn x.hi]]] (R.v (.b (C.any fun c => !cldC ps mix lo hi b xs x c))) :=
 spec55g C 56 [] [.ref [.sl (List.map p2 ps), nn mix, nn lo, nn hi, nn b, .sl (List.map nn xs), .sl (List.map lsV x.sets), .sl (List.map nn x.steps), .sl (List.map nn x.prices), nn x.lo, nn x.hi], .ref [nn x.lo, nn x.hi]] (fun c => !cldC ps mix lo hi b xs x c) hl ⟨rfl, rfl⟩ fun i hi => spec56 ps mix lo _ b xs x _ h1 h2 h (hC _ (getD_mem hi))
theorem any_2 (ps : List (Int × Int)) (mix lo hi b : Int) (xs : List Int) (x : Fue) (C : List (List Int)) (h1 : rulesErrV ps mix lo hi = 0) (h2 : slabErrV xs b = 0) (h : FueOk x) (hC : ∀ c ∈ C, ChoOk x c) (hl : C.length < 1000000) : Sp0 55 [.sl (C.map lsV), .fn 57 [] [.ref [.sl (List.map p2 ps), nn mix, nn lo, nn hi, nn b, .sl (List.map nn xs), .sl (List.map lsV x.sets), .sl (List.map nn x.steps), .sl (List.map nn x.prices), nn x.lo, nn x.hi], .ref [nn x.lo, nn x.hi]]] (R.v (.b (C.any fun c => !hotC ps mix lo hi b xs x c))) :=
 spec55g C 57 [] [.ref [.sl (List.map p2 ps), nn mix, nn lo, nn hi, nn b, .sl (List.map nn xs), .sl (List.map lsV x.sets), .sl (List.map nn x.steps), .sl (List.map nn x.prices), nn x.lo, nn x.hi], .ref [nn x.lo, nn x.hi]] (fun c => !hotC ps mix lo hi b xs x c) hl ⟨rfl, rfl⟩ fun i hi => spec57 ps mix lo _ b xs x _ h1 h2 h (hC _ (getD_mem hi))
theorem any_3 (x : Fue) (l : List Int) (C : List (List Int)) (h : FueOk x) (hc : ChoOk x l) (hC : ∀ c ∈ C, ChoOk x c) (hl : C.length < 1000000) : Sp0 55 [.sl (C.map lsV), .fn 59 [] [.ref [.sl (l.map nn)]]] (R.v (.b (C.any fun c => belB l c))) :=
 spec55g C 59 [] [.ref [.sl (l.map nn)]] (fun c => belB l c) hl ⟨rfl, rfl⟩ fun i hi => spec59 l _ (by rw [hc.len, (hC _ (getD_mem hi)).len]) (by have := hc.len; have := h.len; omega)
theorem any_4 (x : Fue) (l : List Int) (C : List (List Int)) (h : FueOk x) (hc : ChoOk x l) (hC : ∀ c ∈ C, ChoOk x c) (hl : C.length < 1000000) : Sp0 55 [.sl (C.map lsV), .fn 61 [] [.ref [.sl (l.map nn)]]] (R.v (.b (C.any fun c => belB c l))) :=
 spec55g C 61 [] [.ref [.sl (l.map nn)]] (fun c => belB c l) hl ⟨rfl, rfl⟩ fun i hi => by
  have k := hC _ (getD_mem hi)
  exact spec61 l _ (by rw [hc.len, k.len]) (by have := k.len; have := h.len; omega)
def finV (o : Option (List Int)) : List Int × Int := match o with | some l => (l, 19) | none => ([], 0)
def chkV (ps : List (Int × Int)) (mix lo hi b : Int) (xs : List Int) (x : Fue) (c : List Int) (C H : List (List Int)) : List Int × Int :=
 if chsE x (List.flatten [[c], C, H]) ≠ 0 then ([], chsE x (List.flatten [[c], C, H]))
 else if okC ps mix lo hi b xs x c = false then ([], 24)
 else if ((C.any fun c => !cldC ps mix lo hi b xs x c) || (H.any fun c => !hotC ps mix lo hi b xs x c)) = true then ([], 13)
 else finV ((allC x).find? (outB x C H (fuN x c c.length)))
end Go.Vm
