import Derived.Test.YtfmkfaohhpmpaaaGreatDoorVmBC
import Derived.Test.YtfmkfaohhpmpaaaGreatDoorWcBc
import Derived.Test.YtfmkfaohhpmpaaaGreatDoorWcCo
import Derived.Test.YtfmkfaohhpmpaaaGreatDoorWcPm
import Derived.Test.YtfmkfaohhpmpaaaGreatDoorWcQ
set_option linter.all false
namespace Go.Vm
open Go.Proofs
set_option maxRecDepth 20000
set_option maxHeartbeats 8000000
--DEF STP = nn t.water; nn t.air; V.sl (t.banks.map bnkV); V.sl (x.ents.map p2); V.sl (x.tars.map p2)
--DEF STC = nn t.water, nn t.air, .sl (t.banks.map bnkV), .sl (x.ents.map p2), .sl (x.tars.map p2)
--DEF BOU = nn c.op; nn c.ch; V.sl (P.map lsV)
--DEF Q = q8
/-! bounds: the program's -/
abbrev boV (c : CPri) (P : List (List Int)) : V := .agg [nn c.op, nn c.ch, .sl (P.map lsV)]
def vAt (P : List (List Int)) (i a : Nat) : Int := (P.getD i default).getD a 0
def oddL (t : CTab) (P : List (List Int)) : Bool := P.any fun l => (l.length : Int) != ((2 ^ t.banks.length : Nat) : Int)
def grtL (P : List (List Int)) : Bool := P.flatten.any fun n => !withinV n (-1000000) 1000000
def bdE (t : CTab) (x : CStrip) (c : CPri) (P : List (List Int)) : Int := firstV [priE c, if (((P.length : Int) == (x.ents.length : Int)) && !oddL t P) = true then 0 else 10, if (!grtL P) = true then 0 else 2]
def badA (t : CTab) (x : CStrip) (c : CPri) (P : List (List Int)) (i a : Nat) : Bool := if i + 1 = x.ents.length then decide (vAt P i a > ownC c a) else (pmtS t x (i + 1)).any fun b => decide (vAt P i a > ownC c a + chgC c a b + vAt P (i + 1) b)
def badI (t : CTab) (x : CStrip) (c : CPri) (P : List (List Int)) (i : Nat) : Bool := (pmtS t x i).any (badA t x c P i)
def badB (t : CTab) (x : CStrip) (c : CPri) (P : List (List Int)) : Bool := (List.range x.ents.length).any (badI t x c P)
theorem spec74g (xs : List (List Int)) (g : FuncId) (a c : List V) (p : List Int → Bool) (hl : xs.length < 1000000) (hno : noOwn a = true ∧ noOwn c = true) (hf : ∀ i, i < xs.length → Sp0 g (a ++ [.sl ((xs.getD i default).map nn)] ++ c) (R.v (.b (p (xs.getD i default))))) : Sp0 74 [.sl (xs.map lsV), .fn g a c] (R.v (nn (idxV p xs))) := by
 refine spec_of mixed (fun _ _ _ h => h) Tryz.func74 (by decide +kernel) rfl (rs := _) rfl (by rfl) rfl (by simp [Tryz.f74]) (by decide +kernel) ?_; simp only [argsG, Nat.zero_add]
 refine c_reg fun K hK => ?_
 simp only [vm]
 (refine hK _ ?_; clear hK K)
 refine c_assoc ?_
 refine c_reg fun K hK => ?_
 simp only [vm, q74, reduceIte, Nat.reduceEqDiff, reduceCtorEq]
 (refine hK _ ?_; clear hK K)
 refine c_block ?_
 refine vcode_loop (fun i : Nat => [(0, L.p (V.sl (List.map lsV xs))), (1, L.p (V.fn g a c)), (4, L.p (nn 0)), (7, L.p (nn xs.length)), (8, L.p (nn i))]) (fun _ => []) (fun i => i ≤ xs.length ∧ ∀ j, j < i → p (xs.getD j default) = false) (fun i => xs.length - i) 0 ⟨Nat.zero_le _, by simp⟩ ?_ ?_
 ·
  simp only [vm, vmk, reduceIte, Nat.reduceEqDiff, reduceCtorEq]
 ·
  rintro i ⟨hi, hq⟩
  rcases Nat.lt_or_ge i xs.length with hil | hil
  ·
   have kl : decide ((i : Int) < (xs.length : Int)) = true := decide_eq_true (by omega)
   refine c_reg fun K hK => ?_
   simp only [vm, kl, reduceIte, Nat.reduceEqDiff, reduceCtorEq]
   (refine hK _ ?_; clear hK K)
   refine c_if _ rfl (fun hb1 => ?_) (fun hb1 => ?_) <;> (have hp1 := hb1; try simp only [] at hp1)
   refine c_skip ?_
   refine c_block ?_
   refine c_reg fun K hK => ?_
   simp only [vm, reduceIte, Nat.reduceEqDiff, reduceCtorEq]
   (refine hK _ ?_; clear hK K)
   refine c_reg fun K hK => ?_
   simp only [vm, q74, reduceIte, Nat.reduceEqDiff, reduceCtorEq]
   (refine atI_map default (by first | assumption | omega | (simp; done) | (simp; omega)) (by first | assumption | omega | (simp; done) | (simp; omega)) ?_; simp only [vm, vr, q74])
   (apply s_call (hf _ ?s3301x1); (case hf => rfl); (case hq => (simp only [vm, reduceIte, Nat.reduceEqDiff, reduceCtorEq]; rfl)); (case hvs => rfl); (case s3301x1 => first | assumption | omega | (simp; done) | (simp; omega)))
   simp only [vm]
   (refine hK _ ?_; clear hK K)
   refine vcode_if _ rfl (fun hb2 => ?_) (fun hb2 => ?_) <;> (have hp2 := hb2; try simp only [decide_eq_true_eq, decide_eq_false_iff_not, Bool.and_eq_true, Bool.or_eq_true, Bool.not_eq_true', Bool.not_eq_false', Bool.and_eq_false_iff, Bool.or_eq_false_iff, beq_iff_eq, bne_iff_ne, beq_eq_false_iff_ne, bne_eq_false_iff_eq, Bool.not_eq_false, Int.not_lt, Int.not_le] at hp2)
   refine c_reg fun K hK => ?_
   simp only [vm, hb2, reduceIte, Nat.reduceEqDiff, reduceCtorEq]
   (refine hK _ ?_; clear hK K)
   refine c_ret1 ?_
   simp only [thenV_r, blockV_r]
   simp only [vm, vr, reduceIte, Nat.reduceEqDiff, reduceCtorEq]
   rotate_left
   refine c_skip1 ?_
   simp only [thenV_n, blockV_n]
   refine c_reg1 fun K hK => ?_
   simp only [vm, hb2, reduceIte, Nat.reduceEqDiff, reduceCtorEq]
   (simp (disch := omega) only [wr64]; try simp only [vm, vr, vt, vp, q74, mapls, kl, hb1, hb2, Int.reduceBNe, Int.reduceBEq, Int.reduceLT, Int.reduceLE, Int.reduceGT, Int.reduceGE, decide_true, decide_false, bne_self_eq_false, beq_self_eq_true, reduceIte, Nat.reduceEqDiff, Nat.reduceAdd, Nat.reduceLeDiff, Nat.reduceMul, Nat.reduceLT, reduceCtorEq])
   (refine hK _ ?_; clear hK K)
   simp only [thenV_n]
   rotate_left
   cases hb1
   ·
    rw [findIdx_at default (by omega) hq hp2]
   ·
    refine ⟨i + 1, ?_, ⟨by omega, fun j hj => ?_⟩, by omega⟩
    ·
     (simp only [vm, vmk, reduceIte, Nat.reduceEqDiff, reduceCtorEq]; try simp (disch := omega) only [wr64]; try omega)
     rfl
    ·
     by_cases hji : j = i
     ·
      subst hji; exact hp2
     ·
      exact hq j (by omega)
  ·
   have kl : decide ((i : Int) < (xs.length : Int)) = false := decide_eq_false_iff_not.2 (by omega)
   refine c_reg fun K hK => ?_
   simp only [vm, kl, reduceIte, Nat.reduceEqDiff, reduceCtorEq]
   (refine hK _ ?_; clear hK K)
   refine c_if _ rfl (fun hb1 => ?_) (fun hb1 => ?_) <;> (have hp1 := hb1; try simp only [] at hp1)
   cases hb1
   refine c_exit ?_
   simp only [thenV_n, thenV_e, blockV_e, reduceIte]
   refine c_reg fun K hK => ?_
   simp only [vm]
   (refine hK _ ?_; clear hK K)
   refine c_ret1 ?_
   simp only [vm, vr, reduceIte, Nat.reduceEqDiff, reduceCtorEq]
   rw [findIdx_no default (fun j hj => hq j (by omega))]
theorem spec30g (xs : List (List Int)) (g : FuncId) (a c : List V) (p : List Int → Bool) (hl : xs.length < 1000000) (hno : noOwn a = true ∧ noOwn c = true) (hf : ∀ i, i < xs.length → Sp0 g (a ++ [.sl ((xs.getD i default).map nn)] ++ c) (R.v (.b (p (xs.getD i default))))) : Sp0 30 [.sl (xs.map lsV), .fn g a c] (R.v (.b (xs.any p))) := by
 have hi := idx_any p xs
 have hs74 := spec74g xs g a c p hl hno hf
 refine spec_of mixed (fun _ _ _ h => h) Tryz.func30 (by decide +kernel) rfl (rs := _) rfl (by rfl) rfl (by simp [Tryz.f30]) (by decide +kernel) ?_; simp only [argsG, Nat.zero_add]
 refine c_reg fun K hK => ?_
 simp only [vm]
 (refine hK _ ?_; clear hK K)
 refine c_reg fun K hK => ?_
 simp only [vm, reduceIte, Nat.reduceEqDiff, reduceCtorEq]
 (apply s_call (hs74); (case hf => rfl); (case hq => (simp only [vm, reduceIte, Nat.reduceEqDiff, reduceCtorEq]; rfl)); (case hvs => rfl))
 simp only [vm, hi, reduceIte, Nat.reduceEqDiff, reduceCtorEq]
 (refine hK _ ?_; clear hK K)
 refine c_ret1 ?_
 simp only [vm, vr, reduceIte, Nat.reduceEqDiff, reduceCtorEq]
theorem spec75h (xs : List Int) (g : FuncId) (a c : List V) (p : Int → Bool) (hl : xs.length < 1000000) (hno : noOwn a = true ∧ noOwn c = true) (hf : ∀ i, i < xs.length → Sp0 g (a ++ [nn (xs.getD i 0)] ++ c) (R.v (.b (p (xs.getD i 0))))) : Sp0 75 [.sl (xs.map nn), .fn g a c] (R.v (nn (idxV p xs))) := by
 refine spec_of mixed (fun _ _ _ h => h) Tryz.func75 (by decide +kernel) rfl (rs := _) rfl (by rfl) rfl (by simp [Tryz.f75]) (by decide +kernel) ?_; simp only [argsG, Nat.zero_add]
 refine c_reg fun K hK => ?_
 simp only [vm]
 (refine hK _ ?_; clear hK K)
 refine c_assoc ?_
 refine c_reg fun K hK => ?_
 simp only [vm, q75, reduceIte, Nat.reduceEqDiff, reduceCtorEq]
 (refine hK _ ?_; clear hK K)
 refine c_block ?_
 refine vcode_loop (fun i : Nat => [(0, L.p (V.sl (List.map nn xs))), (1, L.p (V.fn g a c)), (4, L.p (nn 0)), (7, L.p (nn xs.length)), (8, L.p (nn i))]) (fun _ => []) (fun i => i ≤ xs.length ∧ ∀ j, j < i → p (xs.getD j 0) = false) (fun i => xs.length - i) 0 ⟨Nat.zero_le _, by simp⟩ ?_ ?_
 ·
  simp only [vm, vmk, reduceIte, Nat.reduceEqDiff, reduceCtorEq]
 ·
  rintro i ⟨hi, hq⟩
  rcases Nat.lt_or_ge i xs.length with hil | hil
  ·
   have kl : decide ((i : Int) < (xs.length : Int)) = true := decide_eq_true (by omega)
   refine c_reg fun K hK => ?_
   simp only [vm, kl, reduceIte, Nat.reduceEqDiff, reduceCtorEq]
   (refine hK _ ?_; clear hK K)
   refine c_if _ rfl (fun hb1 => ?_) (fun hb1 => ?_) <;> (have hp1 := hb1; try simp only [] at hp1)
   refine c_skip ?_
   refine c_block ?_
   refine c_reg fun K hK => ?_
   simp only [vm, reduceIte, Nat.reduceEqDiff, reduceCtorEq]
   (refine hK _ ?_; clear hK K)
   refine c_reg fun K hK => ?_
   simp only [vm, q75, reduceIte, Nat.reduceEqDiff, reduceCtorEq]
   (refine atI_map 0 (by first | assumption | omega | (simp; done) | (simp; omega)) (by first | assumption | omega | (simp; done) | (simp; omega)) ?_; simp only [vm, vr, q75])
   (apply s_call (hf _ ?s5601x1); (case hf => rfl); (case hq => (simp only [vm, reduceIte, Nat.reduceEqDiff, reduceCtorEq]; rfl)); (case hvs => rfl); (case s5601x1 => first | assumption | omega | (simp; done) | (simp; omega)))
   simp only [vm]
   (refine hK _ ?_; clear hK K)
   refine vcode_if _ rfl (fun hb2 => ?_) (fun hb2 => ?_) <;> (have hp2 := hb2; try simp only [decide_eq_true_eq, decide_eq_false_iff_not, Bool.and_eq_true, Bool.or_eq_true, Bool.not_eq_true', Bool.not_eq_false', Bool.and_eq_false_iff, Bool.or_eq_false_iff, beq_iff_eq, bne_iff_ne, beq_eq_false_iff_ne, bne_eq_false_iff_eq, Bool.not_eq_false, Int.not_lt, Int.not_le] at hp2)
   refine c_reg fun K hK => ?_
   simp only [vm, hb2, reduceIte, Nat.reduceEqDiff, reduceCtorEq]
   (refine hK _ ?_; clear hK K)
   refine c_ret1 ?_
   simp only [thenV_r, blockV_r]
   simp only [vm, vr, reduceIte, Nat.reduceEqDiff, reduceCtorEq]
   rotate_left
   refine c_skip1 ?_
   simp only [thenV_n, blockV_n]
   refine c_reg1 fun K hK => ?_
   simp only [vm, hb2, reduceIte, Nat.reduceEqDiff, reduceCtorEq]
   (simp (disch := omega) only [wr64]; try simp only [vm, vr, vt, vp, q75, kl, hb1, hb2, Int.reduceBNe, Int.reduceBEq, Int.reduceLT, Int.reduceLE, Int.reduceGT, Int.reduceGE, decide_true, decide_false, bne_self_eq_false, beq_self_eq_true, reduceIte, Nat.reduceEqDiff, Nat.reduceAdd, Nat.reduceLeDiff, Nat.reduceMul, Nat.reduceLT, reduceCtorEq])
   (refine hK _ ?_; clear hK K)
   simp only [thenV_n]
   rotate_left
   cases hb1
   ·
    rw [findIdx_at 0 (by omega) hq hp2]
   ·
    refine ⟨i + 1, ?_, ⟨by omega, fun j hj => ?_⟩, by omega⟩
    ·
     (simp only [vm, vmk, reduceIte, Nat.reduceEqDiff, reduceCtorEq]; try simp (disch := omega) only [wr64]; try omega)
     rfl
    ·
     by_cases hji : j = i
     ·
      subst hji; exact hp2
     ·
      exact hq j (by omega)
  ·
   have kl : decide ((i : Int) < (xs.length : Int)) = false := decide_eq_false_iff_not.2 (by omega)
   refine c_reg fun K hK => ?_
   simp only [vm, kl, reduceIte, Nat.reduceEqDiff, reduceCtorEq]
   (refine hK _ ?_; clear hK K)
   refine c_if _ rfl (fun hb1 => ?_) (fun hb1 => ?_) <;> (have hp1 := hb1; try simp only [] at hp1)
   cases hb1
   refine c_exit ?_
   simp only [thenV_n, thenV_e, blockV_e, reduceIte]
   refine c_reg fun K hK => ?_
   simp only [vm]
   (refine hK _ ?_; clear hK K)
   refine c_ret1 ?_
   simp only [vm, vr, reduceIte, Nat.reduceEqDiff, reduceCtorEq]
   rw [findIdx_no 0 (fun j hj => hq j (by omega))]
theorem spec33h (xs : List Int) (g : FuncId) (a c : List V) (p : Int → Bool) (hl : xs.length < 1000000) (hno : noOwn a = true ∧ noOwn c = true) (hf : ∀ i, i < xs.length → Sp0 g (a ++ [nn (xs.getD i 0)] ++ c) (R.v (.b (p (xs.getD i 0))))) : Sp0 33 [.sl (xs.map nn), .fn g a c] (R.v (.b (xs.any p))) := by
 have hi := idx_any p xs
 have hs75 := spec75h xs g a c p hl hno hf
 refine spec_of mixed (fun _ _ _ h => h) Tryz.func33 (by decide +kernel) rfl (rs := _) rfl (by rfl) rfl (by simp [Tryz.f33]) (by decide +kernel) ?_; simp only [argsG, Nat.zero_add]
 refine c_reg fun K hK => ?_
 simp only [vm]
 (refine hK _ ?_; clear hK K)
 refine c_reg fun K hK => ?_
 simp only [vm, reduceIte, Nat.reduceEqDiff, reduceCtorEq]
 (apply s_call (hs75); (case hf => rfl); (case hq => (simp only [vm, reduceIte, Nat.reduceEqDiff, reduceCtorEq]; rfl)); (case hvs => rfl))
 simp only [vm, hi, reduceIte, Nat.reduceEqDiff, reduceCtorEq]
 (refine hK _ ?_; clear hK K)
 refine c_ret1 ?_
 simp only [vm, vr, reduceIte, Nat.reduceEqDiff, reduceCtorEq]
theorem spec31 (t : CTab) (x : CStrip) (l : List Int) (h4 : t.banks.length ≤ 4) : Sp0 31 [.sl (l.map nn), .ref [nn t.water, nn t.air, .sl (t.banks.map bnkV), .sl (x.ents.map p2), .sl (x.tars.map p2)]] (R.v (.b ((l.length : Int) != ((2 ^ t.banks.length : Nat) : Int)))) := by
 have hs32 := spec32 t h4
 refine spec_of mixed (fun _ _ _ h => h) Tryz.func31 (by decide +kernel) rfl (rs := _) rfl (by rfl) rfl (by simp [Tryz.f31]) (by decide +kernel) ?_; simp only [argsG, Nat.zero_add]
 refine c_reg fun K hK => ?_
 simp only [vm]
 (refine hK _ ?_; clear hK K)
 refine c_reg fun K hK => ?_
 simp only [vm, vr, q31, vload_ref3, reduceIte, Nat.reduceEqDiff, reduceCtorEq]
 (apply s_call (hs32); (case hf => rfl); (case hq => (simp only [vm, reduceIte, Nat.reduceEqDiff, reduceCtorEq]; rfl)); (case hvs => rfl))
 simp only [vm, reduceIte, Nat.reduceEqDiff, reduceCtorEq]
 (refine hK _ ?_; clear hK K)
 refine c_ret1 ?_
 simp only [vm, vr, reduceIte, Nat.reduceEqDiff, reduceCtorEq]
theorem spec35 (n : Int) : Sp0 35 [nn n] (R.v (.b (!withinV n (-1000000) 1000000))) := by
 refine spec_of mixed (fun _ _ _ h => h) Tryz.func35 (by decide +kernel) rfl (rs := _) rfl (by rfl) rfl (by simp [Tryz.f35]) (by decide +kernel) ?_; simp only [argsG]
 refine c_reg fun K hK => ?_
 simp only [vm]
 (refine hK _ ?_; clear hK K)
 refine c_reg fun K hK => ?_
 simp only [vm, reduceIte, reduceCtorEq]
 (apply s_call (spec36 _ _ _); (case hf => rfl); (case hq => (simp only [vm, reduceIte, Nat.reduceEqDiff, reduceCtorEq]; rfl)); (case hvs => rfl))
 simp only [vm, reduceIte, Nat.reduceEqDiff, reduceCtorEq]
 (refine hK _ ?_; clear hK K)
 refine c_ret1 ?_
 simp only [vm, vr, reduceIte, Nat.reduceEqDiff, reduceCtorEq]
theorem odd_anyB (t : CTab) (x : CStrip) (P : List (List Int)) (hl : P.length < 1000000) (h4 : t.banks.length ≤ 4) : Sp0 30 [.sl (P.map lsV), .fn 31 [] [.ref [nn t.water, nn t.air, .sl (t.banks.map bnkV), .sl (x.ents.map p2), .sl (x.tars.map p2)]]] (R.v (.b (oddL t P))) :=
 spec30g P _ _ _ _ hl ⟨rfl, rfl⟩ fun i hi => spec31 t x _ h4
theorem grt_anyB (P : List (List Int)) (hl : P.flatten.length < 1000000) : Sp0 33 [.sl (P.flatten.map nn), .fn 35 [] []] (R.v (.b (grtL P))) :=
 spec33h P.flatten _ _ _ _ hl ⟨rfl, rfl⟩ fun i hi => spec35 _
theorem bo_op (t : CTab) (x : CStrip) (c : CPri) (P : List (List Int)) (hb : t.banks.length < 1000000) (hl : x.ents.length < 1000000) (h2 : x.tars.length < 1000000) (h : opE t x ≠ 0) : Sp0 8 [ctV t, csV x, boV c P] (R.v2 (nn 0) (nn (opE t x))) := by
 have k : (firstV [(tabE t).2, (strE x).2] != 0) = true := bne_iff_ne.2 h
 unfold opE
 refine spec_of mixed (fun _ _ _ h => h) Tryz.func8 (by decide +kernel) rfl (rs := _) rfl (by rfl) rfl (by simp [Tryz.f8]) (by decide +kernel) ?_; simp only [argsG, Nat.zero_add, Nat.reduceAdd]
 refine c_reg fun K hK => ?_
 simp only [vm, vr, reduceIte, Nat.reduceEqDiff, Nat.reduceAdd, reduceCtorEq]
 refine need_by (by first | assumption | omega | (simp; done) | (simp; omega)) ?_
 refine need_by (by first | assumption | omega | (simp; done) | (simp; omega)) ?_
 refine need_by (by first | assumption | omega | (simp; done) | (simp; omega)) ?_
 (refine hK _ ?_; clear hK K)
 refine c_reg fun K hK => ?_
 simp only [vm, vr, q8, reduceIte, Nat.reduceEqDiff, Nat.reduceAdd, Nat.reduceLeDiff, reduceCtorEq]
 (apply s_call2 (spec29 _ _ ?s8801x1 ?s8801x2 ?s8801x3); (case hf => rfl); (case hq => (simp only [vm, reduceIte, Nat.reduceEqDiff, reduceCtorEq]; rfl)); (case hvs => rfl); (case s8801x1 | s8801x2 | s8801x3 => first | assumption | omega | (simp; done) | (simp; omega)))
 simp only [vm, vr, q8, reduceIte, Nat.reduceEqDiff, Nat.reduceAdd, Nat.reduceLeDiff, reduceCtorEq]
 refine need_by (by first | assumption | omega | (simp; done) | (simp; omega)) ?_
 (refine hK _ ?_; clear hK K)
 refine c_assoc ?_
 refine c_reg fun K hK => ?_
 simp only [vm, vr, k, reduceIte, Nat.reduceEqDiff, reduceCtorEq]
 (refine hK _ ?_; clear hK K)
 refine c_if _ rfl (fun hb1 => ?_) (fun hb1 => ?_) <;> (have hp1 := hb1; try simp only [] at hp1)
 refine c_assoc ?_
 refine c_reg fun K hK => ?_
 simp only [vm, vr, reduceIte, Nat.reduceEqDiff, reduceCtorEq]
 (refine hK _ ?_; clear hK K)
 refine c_ret ?_
 simp only [vm, vr, reduceIte, Nat.reduceEqDiff, reduceCtorEq]
 cases hb1
theorem bo_err (t : CTab) (x : CStrip) (c : CPri) (P : List (List Int)) (hP : P.length < 1000000) (hf : P.flatten.length < 1000000) (h0 : opE t x = 0) (h : bdE t x c P ≠ 0) : Sp0 8 [ctV t, csV x, boV c P] (R.v2 (nn 0) (nn (bdE t x c P))) := by
 obtain ⟨ht, hx⟩ := op_ok h0
 have htl := ht.len
 have hxl := hx.len
 have hxs := hx.same
 have k0 : firstV [(tabE t).2, (strE x).2] = 0 := h0
 have hs30 := odd_anyB t x P hP htl.2
 have hs33 := grt_anyB P hf
 have hs34 := spec34 P hP hf
 have k : (bdE t x c P != 0) = true := bne_iff_ne.2 h
 cases e1 : ((P.length : Int) == (x.ents.length : Int)) with
 | true =>
  have kb : firstV [priE c, if (!oddL t P) = true then 0 else 10, if (!grtL P) = true then 0 else 2] = bdE t x c P := by unfold bdE; rw [e1, Bool.true_and]
  generalize bdE t x c P = E at *
  refine spec_of mixed (fun _ _ _ h => h) Tryz.func8 (by decide +kernel) rfl (rs := _) rfl (by rfl) rfl (by simp [Tryz.f8]) (by decide +kernel) ?_; simp only [argsG, Nat.zero_add, Nat.reduceAdd]
  refine c_reg fun K hK => ?_
  simp only [vm, vr, reduceIte, Nat.reduceEqDiff, Nat.reduceAdd, reduceCtorEq]
  refine need_by (by first | assumption | omega | (simp; done) | (simp; omega)) ?_
  refine need_by (by first | assumption | omega | (simp; done) | (simp; omega)) ?_
  refine need_by (by first | assumption | omega | (simp; done) | (simp; omega)) ?_
  (refine hK _ ?_; clear hK K)
  refine c_reg fun K hK => ?_
  simp only [vm, vr, q8, reduceIte, Nat.reduceEqDiff, Nat.reduceAdd, Nat.reduceLeDiff, reduceCtorEq]
  (apply s_call2 (spec29 _ _ ?s10401x1 ?s10401x2 ?s10401x3); (case hf => rfl); (case hq => (simp only [vm, reduceIte, Nat.reduceEqDiff, reduceCtorEq]; rfl)); (case hvs => rfl); (case s10401x1 | s10401x2 | s10401x3 => first | assumption | omega | (simp; done) | (simp; omega)))
  simp only [vm, vr, q8, k0, reduceIte, Nat.reduceEqDiff, Nat.reduceAdd, Nat.reduceLeDiff, reduceCtorEq]
  refine need_by (by first | assumption | omega | (simp; done) | (simp; omega)) ?_
  (refine hK _ ?_; clear hK K)
  refine c_assoc ?_
  refine c_reg fun K hK => ?_
  simp only [vm, vr, bne_self_eq_false, reduceIte, Nat.reduceEqDiff, reduceCtorEq]
  (refine hK _ ?_; clear hK K)
  refine c_if _ rfl (fun hb1 => ?_) (fun hb1 => ?_) <;> (have hp1 := hb1; try simp only [] at hp1)
  cases hb1
  refine c_skip ?_
  refine c_reg fun K hK => ?_
  simp only [vm, vr, q8, reduceIte, Nat.reduceEqDiff, Nat.reduceAdd, Nat.reduceLeDiff, reduceCtorEq]
  (apply s_call (hs30); (case hf => rfl); (case hq => (simp only [vm, reduceIte, Nat.reduceEqDiff, reduceCtorEq]; rfl)); (case hvs => rfl))
  simp only [vm, vr, reduceIte, Nat.reduceEqDiff, reduceCtorEq]
  (refine hK _ ?_; clear hK K)
  refine c_reg fun K hK => ?_
  simp only [vm, vr, q8, reduceIte, Nat.reduceEqDiff, Nat.reduceAdd, Nat.reduceLeDiff, reduceCtorEq]
  (apply s_calla (hs34); (case hf => rfl); (case hq => (simp only [vm, reduceIte, Nat.reduceEqDiff, reduceCtorEq]; rfl)); (case hvs => rfl); (case hfr => (simp only [vm, reduceIte, Nat.reduceEqDiff, reduceCtorEq])); (case hfz => rfl))
  (apply s_call (hs33); (case hf => rfl); (case hq => (simp only [vm, vr, reduceIte, Nat.reduceEqDiff, reduceCtorEq]; rfl)); (case hvs => rfl))
  simp only [vm, vr, reduceIte, Nat.reduceEqDiff, reduceCtorEq]
  (refine hK _ ?_; clear hK K)
  refine c_assoc ?_
  refine c_draw fun K hK => ?_
  simp only [vm, vr, q8, reduceIte, Nat.reduceEqDiff, Nat.reduceAdd, Nat.reduceLeDiff, reduceCtorEq]
  (apply d_call (spec38 _); (case hf => rfl); (case hq => (simp only [vm, reduceIte, Nat.reduceEqDiff, reduceCtorEq]; rfl)); (case hvs => rfl))
  simp only [vm, vr, q8, e1, reduceIte, Nat.reduceEqDiff, Nat.reduceAdd, Nat.reduceLeDiff, reduceCtorEq]
  (apply d_call (spec39 _ _); (case hf => rfl); (case hq => (simp only [vm, reduceIte, Nat.reduceEqDiff, reduceCtorEq]; rfl)); (case hvs => rfl))
  simp only [vm, vr, reduceIte, Nat.reduceEqDiff, reduceCtorEq]
  (apply d_call (spec39 _ _); (case hf => rfl); (case hq => (simp only [vm, reduceIte, Nat.reduceEqDiff, reduceCtorEq]; rfl)); (case hvs => rfl))
  simp only [vm, vr, q8, reduceIte, Nat.reduceEqDiff, Nat.reduceAdd, Nat.reduceLeDiff, Nat.reduceMul, reduceCtorEq]
  refine need_by (by first | assumption | omega | (simp; done) | (simp; omega)) ?_
  (apply d_call (spec37w3 _ _ _); (case hf => rfl); (case hq => (simp only [vm, reduceIte, Nat.reduceEqDiff, reduceCtorEq]; rfl)); (case hvs => rfl))
  simp only [vm, vr, kb, reduceIte, Nat.reduceEqDiff, reduceCtorEq]
  (refine draw_ok (by decide +kernel) (hK _ ?_); clear hK; clear K)
  refine c_assoc ?_
  refine c_reg fun K hK => ?_
  simp only [vm, vr, k, reduceIte, Nat.reduceEqDiff, reduceCtorEq]
  (refine hK _ ?_; clear hK K)
  refine c_if _ rfl (fun hb2 => ?_) (fun hb2 => ?_) <;> (have hp2 := hb2; try simp only [] at hp2)
  refine c_assoc ?_
  refine c_reg fun K hK => ?_
  simp only [vm, vr, reduceIte, Nat.reduceEqDiff, reduceCtorEq]
  (refine hK _ ?_; clear hK K)
  refine c_ret ?_
  simp only [vm, vr, reduceIte, Nat.reduceEqDiff, reduceCtorEq]
  cases hb2
 | false =>
  have kb : firstV [priE c, 10, if (!grtL P) = true then 0 else 2] = bdE t x c P := by unfold bdE; rw [e1]; rfl
  generalize bdE t x c P = E at *
  refine spec_of mixed (fun _ _ _ h => h) Tryz.func8 (by decide +kernel) rfl (rs := _) rfl (by rfl) rfl (by simp [Tryz.f8]) (by decide +kernel) ?_; simp only [argsG, Nat.zero_add, Nat.reduceAdd]
  refine c_reg fun K hK => ?_
  simp only [vm, vr, reduceIte, Nat.reduceEqDiff, Nat.reduceAdd, reduceCtorEq]
  refine need_by (by first | assumption | omega | (simp; done) | (simp; omega)) ?_
  refine need_by (by first | assumption | omega | (simp; done) | (simp; omega)) ?_
  refine need_by (by first | assumption | omega | (simp; done) | (simp; omega)) ?_
  (refine hK _ ?_; clear hK K)
  refine c_reg fun K hK => ?_
  simp only [vm, vr, q8, reduceIte, Nat.reduceEqDiff, Nat.reduceAdd, Nat.reduceLeDiff, reduceCtorEq]
  (apply s_call2 (spec29 _ _ ?s10901x1 ?s10901x2 ?s10901x3); (case hf => rfl); (case hq => (simp only [vm, reduceIte, Nat.reduceEqDiff, reduceCtorEq]; rfl)); (case hvs => rfl); (case s10901x1 | s10901x2 | s10901x3 => first | assumption | omega | (simp; done) | (simp; omega)))
  simp only [vm, vr, q8, k0, reduceIte, Nat.reduceEqDiff, Nat.reduceAdd, Nat.reduceLeDiff, reduceCtorEq]
  refine need_by (by first | assumption | omega | (simp; done) | (simp; omega)) ?_
  (refine hK _ ?_; clear hK K)
  refine c_assoc ?_
  refine c_reg fun K hK => ?_
  simp only [vm, vr, bne_self_eq_false, reduceIte, Nat.reduceEqDiff, reduceCtorEq]
  (refine hK _ ?_; clear hK K)
  refine c_if _ rfl (fun hb1 => ?_) (fun hb1 => ?_) <;> (have hp1 := hb1; try simp only [] at hp1)
  cases hb1
  refine c_skip ?_
  refine c_reg fun K hK => ?_
  simp only [vm, vr, q8, reduceIte, Nat.reduceEqDiff, Nat.reduceAdd, Nat.reduceLeDiff, reduceCtorEq]
  (apply s_call (hs30); (case hf => rfl); (case hq => (simp only [vm, reduceIte, Nat.reduceEqDiff, reduceCtorEq]; rfl)); (case hvs => rfl))
  simp only [vm, vr, reduceIte, Nat.reduceEqDiff, reduceCtorEq]
  (refine hK _ ?_; clear hK K)
  refine c_reg fun K hK => ?_
  simp only [vm, vr, q8, reduceIte, Nat.reduceEqDiff, Nat.reduceAdd, Nat.reduceLeDiff, reduceCtorEq]
  (apply s_calla (hs34); (case hf => rfl); (case hq => (simp only [vm, reduceIte, Nat.reduceEqDiff, reduceCtorEq]; rfl)); (case hvs => rfl); (case hfr => (simp only [vm, reduceIte, Nat.reduceEqDiff, reduceCtorEq])); (case hfz => rfl))
  (apply s_call (hs33); (case hf => rfl); (case hq => (simp only [vm, vr, reduceIte, Nat.reduceEqDiff, reduceCtorEq]; rfl)); (case hvs => rfl))
  simp only [vm, vr, reduceIte, Nat.reduceEqDiff, reduceCtorEq]
  (refine hK _ ?_; clear hK K)
  refine c_assoc ?_
  refine c_draw fun K hK => ?_
  simp only [vm, vr, q8, reduceIte, Nat.reduceEqDiff, Nat.reduceAdd, Nat.reduceLeDiff, reduceCtorEq]
  (apply d_call (spec38 _); (case hf => rfl); (case hq => (simp only [vm, reduceIte, Nat.reduceEqDiff, reduceCtorEq]; rfl)); (case hvs => rfl))
  simp only [vm, vr, q8, e1, reduceIte, Nat.reduceEqDiff, Nat.reduceAdd, Nat.reduceLeDiff, reduceCtorEq]
  (apply d_call (spec39 _ _); (case hf => rfl); (case hq => (simp only [vm, reduceIte, Nat.reduceEqDiff, reduceCtorEq]; rfl)); (case hvs => rfl))
  simp only [vm, vr, reduceIte, Nat.reduceEqDiff, reduceCtorEq]
  (apply d_call (spec39 _ _); (case hf => rfl); (case hq => (simp only [vm, reduceIte, Nat.reduceEqDiff, reduceCtorEq]; rfl)); (case hvs => rfl))
  simp only [vm, vr, q8, reduceIte, Nat.reduceEqDiff, Nat.reduceAdd, Nat.reduceLeDiff, Nat.reduceMul, reduceCtorEq]
  refine need_by (by first | assumption | omega | (simp; done) | (simp; omega)) ?_
  (apply d_call (spec37w3 _ _ _); (case hf => rfl); (case hq => (simp only [vm, reduceIte, Nat.reduceEqDiff, reduceCtorEq]; rfl)); (case hvs => rfl))
  simp only [vm, vr, kb, reduceIte, Nat.reduceEqDiff, reduceCtorEq]
  (refine draw_ok (by decide +kernel) (hK _ ?_); clear hK; clear K)
  refine c_assoc ?_
  refine c_reg fun K hK => ?_
  simp only [vm, vr, k, reduceIte, Nat.reduceEqDiff, reduceCtorEq]
  (refine hK _ ?_; clear hK K)
  refine c_if _ rfl (fun hb2 => ?_) (fun hb2 => ?_) <;> (have hp2 := hb2; try simp only [] at hp2)
  refine c_assoc ?_
  refine c_reg fun K hK => ?_
  simp only [vm, vr, reduceIte, Nat.reduceEqDiff, reduceCtorEq]
  (refine hK _ ?_; clear hK K)
  refine c_ret ?_
  simp only [vm, vr, reduceIte, Nat.reduceEqDiff, reduceCtorEq]
  cases hb2
theorem bd_ok {t : CTab} {x : CStrip} {c : CPri} {P : List (List Int)} (h : bdE t x c P = 0) : priE c = 0 ∧ P.length = x.ents.length ∧ oddL t P = false ∧ grtL P = false := by
 unfold bdE at h
 have h1 := firstV_zero h
 have a := unless_ok (e := 10) (by decide) (h1 _ (List.mem_cons_of_mem _ (List.mem_cons_self ..)))
 have b := unless_ok (e := 2) (by decide) (h1 _ (List.mem_cons_of_mem _ (List.mem_cons_of_mem _ (List.mem_cons_self ..))))
 rw [Bool.and_eq_true, beq_iff_eq, Bool.not_eq_true'] at a
 rw [Bool.not_eq_true'] at b
 exact ⟨h1 _ (List.mem_cons_self ..), by omega, a.2, b⟩
theorem bd_rows {t : CTab} {P : List (List Int)} (h : oddL t P = false) {i : Nat} (hi : i < P.length) : (P.getD i default).length = 2 ^ t.banks.length := by
 unfold oddL at h
 rw [List.any_eq_false] at h
 have := h _ (getD_memC (l := P) (i := i) hi)
 simp only [bne_iff_ne, ne_eq, Decidable.not_not] at this
 omega
theorem bd_vals {P : List (List Int)} (h : grtL P = false) {i a : Nat} (hi : i < P.length) (ha : a < (P.getD i default).length) : -1000000 ≤ vAt P i a ∧ vAt P i a ≤ 1000000 := by
 unfold grtL at h
 rw [List.any_eq_false] at h
 have hm : vAt P i a ∈ P.flatten := by
  rw [List.mem_flatten]
  refine ⟨P.getD i default, getD_memC hi, ?_⟩
  unfold vAt
  generalize P.getD i default = Z at ha ⊢
  rw [List.getD_eq_getElem?_getD, List.getElem?_eq_getElem ha]
  exact List.getElem_mem ha
 have := h _ hm
 rw [Bool.not_eq_true, Bool.not_eq_false'] at this
 exact wi2.1 this
theorem bo_main (t : CTab) (x : CStrip) (c : CPri) (P : List (List Int)) (hf : P.flatten.length < 1000000) (h0 : opE t x = 0) (h : bdE t x c P = 0) : Sp0 8 [ctV t, csV x, boV c P] (if badB t x c P = true then R.v2 (nn 0) (nn 19) else R.v2 (nn (minOf (fun a => vAt P 0 a) (pmtS t x 0))) (nn 0)) := by
 obtain ⟨ht, hx⟩ := op_ok h0
 have htl := ht.len
 have hxl := hx.len
 have hxs := hx.same
 obtain ⟨hc, hPl, hodd, hgrt⟩ := bd_ok h
 have k0 : firstV [(tabE t).2, (strE x).2] = 0 := h0
 have hs30 := odd_anyB t x P (by omega) htl.2
 have hs33 := grt_anyB P hf
 have hs34 := spec34 P (by omega) hf
 rw [hodd] at hs30
 rw [hgrt] at hs33
 have e1 : ((P.length : Int) == (x.ents.length : Int)) = true := by rw [beq_iff_eq]; omega
 have kb : firstV [0, 0, 0] = 0 := rfl
 have hs38 := spec38 c
 rw [hc] at hs38
 refine spec_of mixed (fun _ _ _ h => h) Tryz.func8 (by decide +kernel) rfl (rs := _) rfl (by rfl) rfl (by simp [Tryz.f8]) (by decide +kernel) ?_; simp only [argsG, Nat.zero_add, Nat.reduceAdd]
 refine c_reg fun K hK => ?_
 simp only [vm, vr, reduceIte, Nat.reduceEqDiff, Nat.reduceAdd, reduceCtorEq]
 refine need_by (by first | assumption | omega | (simp; done) | (simp; omega)) ?_
 refine need_by (by first | assumption | omega | (simp; done) | (simp; omega)) ?_
 refine need_by (by first | assumption | omega | (simp; done) | (simp; omega)) ?_
 (refine hK _ ?_; clear hK K)
 refine c_reg fun K hK => ?_
 simp only [vm, vr, q8, reduceIte, Nat.reduceEqDiff, Nat.reduceAdd, Nat.reduceLeDiff, reduceCtorEq]
 (apply s_call2 (spec29 _ _ ?s15401x1 ?s15401x2 ?s15401x3); (case hf => rfl); (case hq => (simp only [vm, reduceIte, Nat.reduceEqDiff, reduceCtorEq]; rfl)); (case hvs => rfl); (case s15401x1 | s15401x2 | s15401x3 => first | assumption | omega | (simp; done) | (simp; omega)))
 simp only [vm, vr, q8, k0, reduceIte, Nat.reduceEqDiff, Nat.reduceAdd, Nat.reduceLeDiff, reduceCtorEq]
 refine need_by (by first | assumption | omega | (simp; done) | (simp; omega)) ?_
 (refine hK _ ?_; clear hK K)
 refine c_assoc ?_
 refine c_reg fun K hK => ?_
 simp only [vm, vr, bne_self_eq_false, reduceIte, Nat.reduceEqDiff, reduceCtorEq]
 (refine hK _ ?_; clear hK K)
 refine c_if _ rfl (fun hb1 => ?_) (fun hb1 => ?_) <;> (have hp1 := hb1; try simp only [] at hp1)
 cases hb1
 refine c_skip ?_
 refine c_reg fun K hK => ?_
 simp only [vm, vr, q8, reduceIte, Nat.reduceEqDiff, Nat.reduceAdd, Nat.reduceLeDiff, reduceCtorEq]
 (apply s_call (hs30); (case hf => rfl); (case hq => (simp only [vm, reduceIte, Nat.reduceEqDiff, reduceCtorEq]; rfl)); (case hvs => rfl))
 simp only [vm, vr, reduceIte, Nat.reduceEqDiff, reduceCtorEq]
 (refine hK _ ?_; clear hK K)
 refine c_reg fun K hK => ?_
 simp only [vm, vr, q8, reduceIte, Nat.reduceEqDiff, Nat.reduceAdd, Nat.reduceLeDiff, reduceCtorEq]
 (apply s_calla (hs34); (case hf => rfl); (case hq => (simp only [vm, reduceIte, Nat.reduceEqDiff, reduceCtorEq]; rfl)); (case hvs => rfl); (case hfr => (simp only [vm, reduceIte, Nat.reduceEqDiff, reduceCtorEq])); (case hfz => rfl))
 (apply s_call (hs33); (case hf => rfl); (case hq => (simp only [vm, vr, reduceIte, Nat.reduceEqDiff, reduceCtorEq]; rfl)); (case hvs => rfl))
 simp only [vm, vr, reduceIte, Nat.reduceEqDiff, reduceCtorEq]
 (refine hK _ ?_; clear hK K)
 refine c_assoc ?_
 refine c_draw fun K hK => ?_
 simp only [vm, vr, q8, reduceIte, Nat.reduceEqDiff, Nat.reduceAdd, Nat.reduceLeDiff, reduceCtorEq]
 (apply d_call (hs38); (case hf => rfl); (case hq => (simp only [vm, reduceIte, Nat.reduceEqDiff, reduceCtorEq]; rfl)); (case hvs => rfl))
 simp only [vm, vr, q8, e1, reduceIte, Nat.reduceEqDiff, Nat.reduceAdd, Nat.reduceLeDiff, reduceCtorEq]
 (apply d_call (spec39 _ _); (case hf => rfl); (case hq => (simp only [vm, reduceIte, Nat.reduceEqDiff, reduceCtorEq]; rfl)); (case hvs => rfl))
 simp only [vm, vr, reduceIte, Nat.reduceEqDiff, reduceCtorEq]
 (apply d_call (spec39 _ _); (case hf => rfl); (case hq => (simp only [vm, reduceIte, Nat.reduceEqDiff, reduceCtorEq]; rfl)); (case hvs => rfl))
 simp only [vm, vr, q8, reduceIte, Nat.reduceEqDiff, Nat.reduceAdd, Nat.reduceLeDiff, Nat.reduceMul, reduceCtorEq]
 refine need_by (by first | assumption | omega | (simp; done) | (simp; omega)) ?_
 (apply d_call (spec37w3 _ _ _); (case hf => rfl); (case hq => (simp only [vm, reduceIte, Nat.reduceEqDiff, reduceCtorEq]; rfl)); (case hvs => rfl))
 simp only [vm, vr, kb, reduceIte, Nat.reduceEqDiff, reduceCtorEq]
 (refine draw_ok (by decide +kernel) (hK _ ?_); clear hK; clear K)
 refine c_assoc ?_
 refine c_reg fun K hK => ?_
 simp only [vm, vr, bne_self_eq_false, reduceIte, Nat.reduceEqDiff, reduceCtorEq]
 (refine hK _ ?_; clear hK K)
 refine c_if _ rfl (fun hb2 => ?_) (fun hb2 => ?_) <;> (have hp2 := hb2; try simp only [] at hp2)
 cases hb2
 refine c_skip ?_
 refine c_reg fun K hK => ?_
 simp only [vm, vr, q8, reduceIte, Nat.reduceEqDiff, Nat.reduceAdd, Nat.reduceLeDiff, reduceCtorEq]
 refine need_by (by first | assumption | omega | (simp; done) | (simp; omega)) ?_
 (refine hK _ ?_; clear hK K)
 refine c_assoc ?_
 refine c_reg fun K hK => ?_
 simp only [vm, vr, q8, reduceIte, Nat.reduceEqDiff, Nat.reduceAdd, Nat.reduceLeDiff, reduceCtorEq]
 (refine hK _ ?_; clear hK K)
 refine c_block ?_
 refine vcode_loop (fun i : Nat => [(5, L.own 5 0), (6, L.p (nn 0)), (7, L.p (nn 0)), (8, L.own 8 0), (13, L.own 13 0), (67, L.p (V.sl (List.map lsV P))), (68, L.p (nn P.length)), (69, L.p (nn i))]) (fun _ => [(Key.b 13, M.box 2), (Key.c 13 0, M.cell (L.p (nn c.op))), (Key.c 13 1, M.cell (L.p (nn c.ch))), (Key.f 8, M.frz), (Key.b 8, M.box 5), (Key.c 8 0, M.cell (L.p (nn t.water))), (Key.c 8 1, M.cell (L.p (nn t.air))), (Key.c 8 2, M.cell (L.p (V.sl (t.banks.map bnkV)))), (Key.c 8 3, M.cell (L.p (V.sl (x.ents.map p2)))), (Key.c 8 4, M.cell (L.p (V.sl (x.tars.map p2)))), (Key.b 5, M.box 3), (Key.c 5 0, M.cell (L.p (nn c.op))), (Key.c 5 1, M.cell (L.p (nn c.ch))), (Key.c 5 2, M.cell (L.p (V.sl (P.map lsV))))]) (fun i => i ≤ P.length ∧ ∀ j, j < i → badI t x c P j = false) (fun i => P.length - i) 0 ⟨Nat.zero_le _, fun j h => absurd h (by omega)⟩ ?_ ?_
 ·
  simp only [vm, vmk, reduceIte, Nat.reduceEqDiff, Nat.reduceAdd, Nat.reduceLT, reduceCtorEq]
 ·
  rintro i ⟨hi, hq⟩
  rcases Nat.lt_or_ge i P.length with hil | hil
  ·
   have kl : decide ((i : Int) < (P.length : Int)) = true := decide_eq_true (by omega)
   have hs40 := spec40 t x i ht hx (by omega)
   refine c_reg fun K hK => ?_
   simp only [vm, vr, kl, reduceIte, Nat.reduceEqDiff]
   (refine hK _ ?_; clear hK K)
   refine c_if _ rfl (fun hb3 => ?_) (fun hb3 => ?_) <;> (have hp3 := hb3; try simp only [] at hp3)
   refine c_skip ?_
   refine c_block ?_
   refine c_reg fun K hK => ?_
   simp only [vm, vr, q8, reduceIte, Nat.reduceEqDiff]
   (refine atI_map default (by first | assumption | omega | (simp; done) | (simp; omega)) (by first | assumption | omega | (simp; done) | (simp; omega)) ?_; simp only [vm, vr, q8])
   (refine hK _ ?_; clear hK K)
   refine c_reg fun K hK => ?_
   simp only [vm, vr, q8, reduceIte, Nat.reduceEqDiff, Nat.reduceAdd, Nat.reduceLeDiff, reduceCtorEq]
   (apply s_call (hs40); (case hf => rfl); (case hq => (simp only [vm, reduceIte, Nat.reduceEqDiff]; rfl)); (case hvs => rfl))
   simp only [vm, vr, q8, reduceIte, Nat.reduceEqDiff]
   (refine hK _ ?_; clear hK K)
   refine c_block1 ?_
   rotate_left
   cases hb3
   refine vcode_loop (fun k : Nat => [(5, L.own 5 0), (6, L.p (nn 0)), (7, L.p (nn 0)), (8, L.own 8 0), (13, L.own 13 0), (14, L.p (nn i)), (15, L.p (V.sl (List.map nn (P.getD i default)))), (67, L.p (V.sl (List.map lsV P))), (68, L.p (nn P.length)), (69, L.p (nn i)), (76, L.p (V.sl (List.map nn (natL (pmtS t x i))))), (77, L.p (nn (pmtS t x i).length)), (78, L.p (nn k))]) (fun _ => [(Key.b 13, M.box 2), (Key.c 13 0, M.cell (L.p (nn c.op))), (Key.c 13 1, M.cell (L.p (nn c.ch))), (Key.f 8, M.frz), (Key.b 8, M.box 5), (Key.c 8 0, M.cell (L.p (nn t.water))), (Key.c 8 1, M.cell (L.p (nn t.air))), (Key.c 8 2, M.cell (L.p (V.sl (t.banks.map bnkV)))), (Key.c 8 3, M.cell (L.p (V.sl (x.ents.map p2)))), (Key.c 8 4, M.cell (L.p (V.sl (x.tars.map p2)))), (Key.b 5, M.box 3), (Key.c 5 0, M.cell (L.p (nn c.op))), (Key.c 5 1, M.cell (L.p (nn c.ch))), (Key.c 5 2, M.cell (L.p (V.sl (P.map lsV))))]) (fun k => k ≤ (pmtS t x i).length ∧ ∀ j, j < k → badA t x c P i ((pmtS t x i).getD j 0) = false) (fun k => (pmtS t x i).length - k) 0 ⟨Nat.zero_le _, fun j h => absurd h (by omega)⟩ ?_ ?_
   ·
    simp only [vm, vmk, reduceIte, Nat.reduceEqDiff, Nat.reduceAdd, Nat.reduceLT, reduceCtorEq]
   ·
    rintro k ⟨hk, hr⟩
    have hrow := bd_rows hodd (i := i) hil
    rcases Nat.lt_or_ge k (pmtS t x i).length with hkl | hkl
    ·
     have kk : decide ((k : Int) < ((pmtS t x i).length : Int)) = true := decide_eq_true (by omega)
     have hm := getD_memN hkl
     obtain ⟨ha, _⟩ := pmt_mem hm
     have na := natL_at (l := pmtS t x i) (k := k)
     generalize ea : (pmtS t x i).getD k 0 = a at *
     have h16 : 2 ^ t.banks.length ≤ 16 := cntA_le htl.2
     have hs41 := spec41 c a hc (by omega)
     have wn : IntKind.wrap .i64 ((P.length : Int) - 1) = (P.length : Int) - 1 := wr64 (by omega) (by omega)
     have hva := bd_vals hgrt (i := i) (a := a) hil (by omega)
     have hob := own_bound hc a
     have hit : badA t x c P i a = true → badB t x c P = true := fun hb => by
      unfold badB; rw [List.any_eq_true]
      refine ⟨i, List.mem_range.2 (by omega), ?_⟩
      unfold badI; rw [List.any_eq_true]
      exact ⟨a, hm, hb⟩
     have nxt : badA t x c P i a = false → ∀ j, j < k + 1 → badA t x c P i ((pmtS t x i).getD j 0) = false := fun h0 j hj => by
      by_cases e : j = k
      ·
       rw [e, ea]; exact h0
      ·
       exact hr j (by omega)
     have hplA := pmt_len (t := t) (x := x) (i := i)
     by_cases hlast : i + 1 = x.ents.length
     ·
      have k5 : ((i : Int) == (P.length : Int) - 1) = true := by rw [beq_iff_eq]; omega
      have eb : badA t x c P i a = decide (vAt P i a > ownC c a) := by unfold badA; rw [if_pos hlast]
      have ev : vAt P i a = (P.getD i default).getD a 0 := rfl
      cases g : decide (vAt P i a > ownC c a) with
      | true =>
       rw [hit (by rw [eb, g]), if_pos rfl]
       rw [ev] at g
       refine c_reg fun K hK => ?_
       simp only [vm, vr, kk, reduceIte, Nat.reduceEqDiff]
       (refine hK _ ?_; clear hK K)
       refine c_if _ rfl (fun hb4 => ?_) (fun hb4 => ?_) <;> (have hp4 := hb4; try simp only [] at hp4)
       refine c_skip ?_
       refine c_block ?_
       refine c_reg fun K hK => ?_
       simp only [vm, vr, q8, reduceIte, Nat.reduceEqDiff]
       (refine atI_map 0 (by first | assumption | omega | (simp; done) | (simp; omega)) (by first | assumption | omega | (simp; done) | (simp; omega)) ?_; simp only [vm, vr, q8, na])
       (refine hK _ ?_; clear hK K)
       refine c_assoc ?_
       refine c_reg fun K hK => ?_
       simp only [vm, vr, q8, wn, k5, reduceIte, Nat.reduceEqDiff, Nat.reduceAdd, Nat.reduceLeDiff, reduceCtorEq]
       (refine hK _ ?_; clear hK K)
       refine c_if _ rfl (fun hb5 => ?_) (fun hb5 => ?_) <;> (have hp5 := hb5; try simp only [] at hp5)
       refine c_assoc ?_
       refine c_assoc ?_
       refine c_draw fun K hK => ?_
       simp only [vm, vr, q8, reduceIte, Nat.reduceEqDiff, Nat.reduceAdd]
       (refine atI_map 0 (by first | assumption | omega | (simp; done) | (simp; omega)) (by first | assumption | omega | (simp; done) | (simp; omega)) ?_; simp only [vm, vr, q8, reduceIte, Nat.reduceEqDiff, Nat.reduceLeDiff, reduceCtorEq])
       (apply d_call (hs41); (case hf => rfl); (case hq => (simp only [vm, reduceIte, Nat.reduceEqDiff]; rfl)); (case hvs => rfl))
       simp only [vm, vr, g, reduceIte, Nat.reduceEqDiff]
       (refine draw_ok (by decide +kernel) (hK _ ?_); clear hK; clear K)
       refine c_if _ rfl (fun hb6 => ?_) (fun hb6 => ?_) <;> (have hp6 := hb6; try simp only [] at hp6)
       refine c_assoc ?_
       refine c_reg fun K hK => ?_
       simp only [vm, vr]
       (refine hK _ ?_; clear hK K)
       refine c_ret ?_
       simp only [thenV_r, blockV_r]
       simp only [vm, vr, reduceIte, Nat.reduceEqDiff]
       cases hb6
       cases hb5
       cases hb4
      | false =>
       rw [g] at eb
       rw [ev] at g
       refine c_reg fun K hK => ?_
       simp only [vm, vr, kk, reduceIte, Nat.reduceEqDiff]
       (refine hK _ ?_; clear hK K)
       refine c_if _ rfl (fun hb4 => ?_) (fun hb4 => ?_) <;> (have hp4 := hb4; try simp only [] at hp4)
       refine c_skip ?_
       refine c_block ?_
       refine c_reg fun K hK => ?_
       simp only [vm, vr, q8, reduceIte, Nat.reduceEqDiff]
       (refine atI_map 0 (by first | assumption | omega | (simp; done) | (simp; omega)) (by first | assumption | omega | (simp; done) | (simp; omega)) ?_; simp only [vm, vr, q8, na])
       (refine hK _ ?_; clear hK K)
       refine c_assoc ?_
       refine c_reg fun K hK => ?_
       simp only [vm, vr, q8, wn, k5, reduceIte, Nat.reduceEqDiff, Nat.reduceAdd, Nat.reduceLeDiff, reduceCtorEq]
       (refine hK _ ?_; clear hK K)
       refine c_if _ rfl (fun hb5 => ?_) (fun hb5 => ?_) <;> (have hp5 := hb5; try simp only [] at hp5)
       refine c_assoc ?_
       refine c_assoc ?_
       refine c_draw fun K hK => ?_
       simp only [vm, vr, q8, reduceIte, Nat.reduceEqDiff, Nat.reduceAdd]
       (refine atI_map 0 (by first | assumption | omega | (simp; done) | (simp; omega)) (by first | assumption | omega | (simp; done) | (simp; omega)) ?_; simp only [vm, vr, q8, reduceIte, Nat.reduceEqDiff, Nat.reduceLeDiff, reduceCtorEq])
       (apply d_call (hs41); (case hf => rfl); (case hq => (simp only [vm, reduceIte, Nat.reduceEqDiff]; rfl)); (case hvs => rfl))
       simp only [vm, vr, g, reduceIte, Nat.reduceEqDiff]
       (refine draw_ok (by decide +kernel) (hK _ ?_); clear hK; clear K)
       refine c_if _ rfl (fun hb6 => ?_) (fun hb6 => ?_) <;> (have hp6 := hb6; try simp only [] at hp6)
       cases hb6
       refine c_skip ?_
       refine c_exit ?_
       simp only [thenV_n, thenV_e, blockV_n, blockV_e, reduceIte, Nat.reduceEqDiff]
       refine c_reg1 fun K hK => ?_
       simp only [vm, vr, reduceIte, Nat.reduceEqDiff]
       (simp (disch := omega) only [wr64]; try simp only [vm, vr, vt, vp, q8, mapbnk, mapp2, mapls, kk, na, wn, k5, g, hb1, hb2, hb3, hb4, hb5, hb6, Int.reduceBNe, Int.reduceBEq, Int.reduceLT, Int.reduceLE, Int.reduceGT, Int.reduceGE, decide_true, decide_false, bne_self_eq_false, beq_self_eq_true, reduceIte, Nat.reduceEqDiff, Nat.reduceAdd, Nat.reduceLeDiff, Nat.reduceMul, Nat.reduceLT, reduceCtorEq])
       (refine hK _ ?_; clear hK K)
       simp only [thenV_n]
       rotate_left
       cases hb5
       cases hb4
       refine ⟨k + 1, ?_, ⟨by omega, nxt eb⟩, by omega⟩
       ((show Wk _ _ _; simp only [vm, vmk, reduceIte, Nat.reduceEqDiff, Nat.reduceAdd, Nat.reduceLT, reduceCtorEq]; (try simp (disch := omega) only [wr64]); try omega))
     ·
      have k5 : ((i : Int) == (P.length : Int) - 1) = false := by rw [beq_eq_false_iff_ne]; omega
      have wi : IntKind.wrap .i64 ((i : Int) + 1) = ((i + 1 : Nat) : Int) := by rw [wr64 (by omega) (by omega)]; omega
      have hs40w2 := spec40 t x (i + 1) ht hx (by omega)
      refine c_reg fun K hK => ?_
      simp only [vm, vr, kk, reduceIte, Nat.reduceEqDiff]
      (refine hK _ ?_; clear hK K)
      refine c_if _ rfl (fun hb4 => ?_) (fun hb4 => ?_) <;> (have hp4 := hb4; try simp only [] at hp4)
      refine c_skip ?_
      refine c_block ?_
      refine c_reg fun K hK => ?_
      simp only [vm, vr, q8, reduceIte, Nat.reduceEqDiff]
      (refine atI_map 0 (by first | assumption | omega | (simp; done) | (simp; omega)) (by first | assumption | omega | (simp; done) | (simp; omega)) ?_; simp only [vm, vr, q8, na])
      (refine hK _ ?_; clear hK K)
      refine c_assoc ?_
      refine c_reg fun K hK => ?_
      simp only [vm, vr, q8, wn, k5, reduceIte, Nat.reduceEqDiff, Nat.reduceAdd, Nat.reduceLeDiff, reduceCtorEq]
      (refine hK _ ?_; clear hK K)
      refine c_if _ rfl (fun hb5 => ?_) (fun hb5 => ?_) <;> (have hp5 := hb5; try simp only [] at hp5)
      cases hb5
      refine c_skip ?_
      refine c_reg fun K hK => ?_
      simp only [vm, vr, q8, wi, reduceIte, Nat.reduceEqDiff, Nat.reduceAdd, Nat.reduceLeDiff, reduceCtorEq]
      (apply s_call (hs40w2); (case hf => rfl); (case hq => (simp only [vm, reduceIte, Nat.reduceEqDiff]; rfl)); (case hvs => rfl))
      simp only [vm, vr, q8, reduceIte, Nat.reduceEqDiff]
      (refine hK _ ?_; clear hK K)
      refine c_block1 ?_
      rotate_left
      cases hb4
      have eb : badA t x c P i a = (pmtS t x (i + 1)).any fun b => decide (vAt P i a > ownC c a + chgC c a b + vAt P (i + 1) b) := by unfold badA; rw [if_neg hlast]
      have hplB := pmt_len (t := t) (x := x) (i := i + 1)
      refine vcode_loop (fun m : Nat => [(5, L.own 5 0), (6, L.p (nn 0)), (7, L.p (nn 0)), (8, L.own 8 0), (13, L.own 13 0), (14, L.p (nn i)), (15, L.p (V.sl (List.map nn (P.getD i default)))), (17, L.p (nn a)), (67, L.p (V.sl (List.map lsV P))), (68, L.p (nn P.length)), (69, L.p (nn i)), (76, L.p (V.sl (List.map nn (natL (pmtS t x i))))), (77, L.p (nn (pmtS t x i).length)), (78, L.p (nn k)), (99, L.p (V.sl (List.map nn (natL (pmtS t x (i + 1)))))), (100, L.p (nn (pmtS t x (i + 1)).length)), (101, L.p (nn m))]) (fun _ => [(Key.b 13, M.box 2), (Key.c 13 0, M.cell (L.p (nn c.op))), (Key.c 13 1, M.cell (L.p (nn c.ch))), (Key.f 8, M.frz), (Key.b 8, M.box 5), (Key.c 8 0, M.cell (L.p (nn t.water))), (Key.c 8 1, M.cell (L.p (nn t.air))), (Key.c 8 2, M.cell (L.p (V.sl (t.banks.map bnkV)))), (Key.c 8 3, M.cell (L.p (V.sl (x.ents.map p2)))), (Key.c 8 4, M.cell (L.p (V.sl (x.tars.map p2)))), (Key.b 5, M.box 3), (Key.c 5 0, M.cell (L.p (nn c.op))), (Key.c 5 1, M.cell (L.p (nn c.ch))), (Key.c 5 2, M.cell (L.p (V.sl (P.map lsV))))]) (fun m => m ≤ (pmtS t x (i + 1)).length ∧ ∀ j, j < m → decide (vAt P i a > ownC c a + chgC c a ((pmtS t x (i + 1)).getD j 0) + vAt P (i + 1) ((pmtS t x (i + 1)).getD j 0)) = false) (fun m => (pmtS t x (i + 1)).length - m) 0 ⟨Nat.zero_le _, fun j h => absurd h (by omega)⟩ ?_ ?_
      ·
       simp only [vm, vmk, reduceIte, Nat.reduceEqDiff, Nat.reduceAdd, Nat.reduceLT, reduceCtorEq]
      ·
       rintro m ⟨hmm, hw⟩
       have hrow2 := bd_rows hodd (i := i + 1) (by omega)
       rcases Nat.lt_or_ge m (pmtS t x (i + 1)).length with hml | hml
       ·
        have km : decide ((m : Int) < ((pmtS t x (i + 1)).length : Int)) = true := decide_eq_true (by omega)
        have hmb := getD_memN hml
        obtain ⟨hb, _⟩ := pmt_mem hmb
        have nb := natL_at (l := pmtS t x (i + 1)) (k := m)
        generalize ebb : (pmtS t x (i + 1)).getD m 0 = b at *
        have hs42 := spec42 c a b hc (by omega) (by omega)
        have hcb := chg_bound hc a b
        have hvb := bd_vals hgrt (i := i + 1) (a := b) (by omega) (by omega)
        have ev : vAt P i a = (P.getD i default).getD a 0 := rfl
        have ev2 : vAt P (i + 1) b = (P.getD (i + 1) default).getD b 0 := rfl
        have w1 : IntKind.wrap .i64 (ownC c a + chgC c a b) = ownC c a + chgC c a b := wr64 (by omega) (by omega)
        have w2 : IntKind.wrap .i64 (ownC c a + chgC c a b + (P.getD (i + 1) default).getD b 0) = ownC c a + chgC c a b + (P.getD (i + 1) default).getD b 0 := wr64 (by omega) (by omega)
        obtain ⟨oA, eA⟩ : ∃ oA, ownC c a = oA := ⟨_, rfl⟩
        obtain ⟨cA, ecA⟩ : ∃ cA, chgC c a b = cA := ⟨_, rfl⟩
        rw [eA] at hs41 w1 w2
        rw [ecA] at hs42 w1 w2
        cases g : decide (vAt P i a > oA + cA + vAt P (i + 1) b) with
        | true =>
         rw [hit (by rw [eb, List.any_eq_true]; exact ⟨b, hmb, by rw [eA, ecA]; exact g⟩), if_pos rfl]
         rw [ev, ev2] at g
         refine c_reg fun K hK => ?_
         simp only [vm, vr, km, reduceIte, Nat.reduceEqDiff]
         (refine hK _ ?_; clear hK K)
         refine c_if _ rfl (fun hb6 => ?_) (fun hb6 => ?_) <;> (have hp6 := hb6; try simp only [] at hp6)
         refine c_skip ?_
         refine c_block ?_
         refine c_reg fun K hK => ?_
         simp only [vm, vr, q8, reduceIte, Nat.reduceEqDiff]
         (refine atI_map 0 (by first | assumption | omega | (simp; done) | (simp; omega)) (by first | assumption | omega | (simp; done) | (simp; omega)) ?_; simp only [vm, vr, q8, nb])
         (refine hK _ ?_; clear hK K)
         refine c_draw fun K hK => ?_
         simp only [vm, vr, q8, reduceIte, Nat.reduceEqDiff, Nat.reduceAdd]
         (refine atI_map 0 (by first | assumption | omega | (simp; done) | (simp; omega)) (by first | assumption | omega | (simp; done) | (simp; omega)) ?_; simp only [vm, vr, q8, reduceIte, Nat.reduceEqDiff, Nat.reduceLeDiff, reduceCtorEq])
         (apply d_call (hs41); (case hf => rfl); (case hq => (simp only [vm, reduceIte, Nat.reduceEqDiff]; rfl)); (case hvs => rfl))
         simp only [vm, vr, q8, reduceIte, Nat.reduceEqDiff, Nat.reduceAdd, Nat.reduceLeDiff, reduceCtorEq]
         (apply d_call (hs42); (case hf => rfl); (case hq => (simp only [vm, reduceIte, Nat.reduceEqDiff]; rfl)); (case hvs => rfl))
         simp only [vm, vr, q8, wi, w1, reduceIte, Nat.reduceEqDiff, Nat.reduceAdd, Nat.reduceLeDiff, reduceCtorEq]
         (refine atI_map default (by first | assumption | omega | (simp; done) | (simp; omega)) (by first | assumption | omega | (simp; done) | (simp; omega)) ?_; simp only [vm, vr, q8])
         (refine atI_map 0 (by first | assumption | omega | (simp; done) | (simp; omega)) (by first | assumption | omega | (simp; done) | (simp; omega)) ?_; simp only [vm, vr, q8, w2, g])
         (refine draw_ok (by decide +kernel) (hK _ ?_); clear hK; clear K)
         refine vcode_if _ rfl (fun hb7 => ?_) (fun hb7 => ?_) <;> (have hp7 := hb7; try simp only [] at hp7)
         refine c_reg fun K hK => ?_
         simp only [vm, vr]
         (refine hK _ ?_; clear hK K)
         refine c_ret1 ?_
         simp only [thenV_r, blockV_r]
         simp only [vm, vr, reduceIte, Nat.reduceEqDiff]
         cases hb7
         cases hb6
        | false =>
         have hw2 : ∀ j, j < m + 1 → decide (vAt P i a > ownC c a + chgC c a ((pmtS t x (i + 1)).getD j 0) + vAt P (i + 1) ((pmtS t x (i + 1)).getD j 0)) = false := fun j hj => by
          by_cases e : j = m
          ·
           rw [e, ebb, eA, ecA]; exact g
          ·
           exact hw j (by omega)
         rw [ev, ev2] at g
         refine c_reg fun K hK => ?_
         simp only [vm, vr, km, reduceIte, Nat.reduceEqDiff]
         (refine hK _ ?_; clear hK K)
         refine c_if _ rfl (fun hb6 => ?_) (fun hb6 => ?_) <;> (have hp6 := hb6; try simp only [] at hp6)
         refine c_skip ?_
         refine c_block ?_
         refine c_reg fun K hK => ?_
         simp only [vm, vr, q8, reduceIte, Nat.reduceEqDiff]
         (refine atI_map 0 (by first | assumption | omega | (simp; done) | (simp; omega)) (by first | assumption | omega | (simp; done) | (simp; omega)) ?_; simp only [vm, vr, q8, nb])
         (refine hK _ ?_; clear hK K)
         refine c_draw fun K hK => ?_
         simp only [vm, vr, q8, reduceIte, Nat.reduceEqDiff, Nat.reduceAdd]
         (refine atI_map 0 (by first | assumption | omega | (simp; done) | (simp; omega)) (by first | assumption | omega | (simp; done) | (simp; omega)) ?_; simp only [vm, vr, q8, reduceIte, Nat.reduceEqDiff, Nat.reduceLeDiff, reduceCtorEq])
         (apply d_call (hs41); (case hf => rfl); (case hq => (simp only [vm, reduceIte, Nat.reduceEqDiff]; rfl)); (case hvs => rfl))
         simp only [vm, vr, q8, reduceIte, Nat.reduceEqDiff, Nat.reduceAdd, Nat.reduceLeDiff, reduceCtorEq]
         (apply d_call (hs42); (case hf => rfl); (case hq => (simp only [vm, reduceIte, Nat.reduceEqDiff]; rfl)); (case hvs => rfl))
         simp only [vm, vr, q8, wi, w1, reduceIte, Nat.reduceEqDiff, Nat.reduceAdd, Nat.reduceLeDiff, reduceCtorEq]
         (refine atI_map default (by first | assumption | omega | (simp; done) | (simp; omega)) (by first | assumption | omega | (simp; done) | (simp; omega)) ?_; simp only [vm, vr, q8])
         (refine atI_map 0 (by first | assumption | omega | (simp; done) | (simp; omega)) (by first | assumption | omega | (simp; done) | (simp; omega)) ?_; simp only [vm, vr, q8, w2, g])
         (refine draw_ok (by decide +kernel) (hK _ ?_); clear hK; clear K)
         refine vcode_if _ rfl (fun hb7 => ?_) (fun hb7 => ?_) <;> (have hp7 := hb7; try simp only [] at hp7)
         cases hb7
         refine c_skip1 ?_
         simp only [thenV_n, blockV_n]
         refine c_reg1 fun K hK => ?_
         simp only [vm, vr, reduceIte, Nat.reduceEqDiff]
         (simp (disch := omega) only [wr64]; try simp only [vm, vr, vt, vp, q8, mapbnk, mapp2, mapls, km, nb, wi, w1, w2, g, hb1, hb2, hb3, hb4, hb5, hb, hb6, hb7, Int.reduceBNe, Int.reduceBEq, Int.reduceLT, Int.reduceLE, Int.reduceGT, Int.reduceGE, decide_true, decide_false, bne_self_eq_false, beq_self_eq_true, reduceIte, Nat.reduceEqDiff, Nat.reduceAdd, Nat.reduceLeDiff, Nat.reduceMul, Nat.reduceLT, reduceCtorEq])
         (refine hK _ ?_; clear hK K)
         simp only [thenV_n]
         rotate_left
         cases hb6
         refine ⟨m + 1, ?_, ⟨by omega, hw2⟩, by omega⟩
         ((show Wk _ _ _; simp only [vm, vmk, reduceIte, Nat.reduceEqDiff, Nat.reduceAdd, Nat.reduceLT, reduceCtorEq]; (try simp (disch := omega) only [wr64]); try omega))
       ·
        have km : decide ((m : Int) < ((pmtS t x (i + 1)).length : Int)) = false := decide_eq_false (by omega)
        have eb0 : badA t x c P i a = false := by
         rw [eb, List.any_eq_false]
         intro b hb
         obtain ⟨j, hj, rfl⟩ := List.getElem_of_mem hb
         have := hw j (by omega)
         rw [show (pmtS t x (i + 1)).getD j 0 = (pmtS t x (i + 1))[j] by simp [List.getD, hj]] at this
         rw [this]; decide
        refine c_reg fun K hK => ?_
        simp only [vm, vr, km, reduceIte, Nat.reduceEqDiff]
        (refine hK _ ?_; clear hK K)
        refine c_if _ rfl (fun hb6 => ?_) (fun hb6 => ?_) <;> (have hp6 := hb6; try simp only [] at hp6)
        cases hb6
        refine c_exit ?_
        simp only [thenV_n, thenV_e, blockV_n, blockV_e, reduceIte, Nat.reduceEqDiff]
        refine c_reg1 fun K hK => ?_
        simp only [vm, vr, reduceIte, Nat.reduceEqDiff]
        (simp (disch := omega) only [wr64]; try simp only [vm, vr, vt, vp, q8, mapls, km, hb1, hb2, hb3, hb4, hb5, hb6, Int.reduceBNe, Int.reduceBEq, Int.reduceLT, Int.reduceLE, Int.reduceGT, Int.reduceGE, decide_true, decide_false, bne_self_eq_false, beq_self_eq_true, reduceIte, Nat.reduceEqDiff, Nat.reduceAdd, Nat.reduceLeDiff, Nat.reduceMul, Nat.reduceLT, reduceCtorEq])
        (refine hK _ ?_; clear hK K)
        simp only [thenV_n]
        refine ⟨k + 1, ?_, ⟨by omega, nxt eb0⟩, by omega⟩
        ((show Wk _ _ _; simp only [vm, vmk, reduceIte, Nat.reduceEqDiff, Nat.reduceAdd, Nat.reduceLT, reduceCtorEq]; (try simp (disch := omega) only [wr64]); try omega))
    ·
     have kk : decide ((k : Int) < ((pmtS t x i).length : Int)) = false := decide_eq_false (by omega)
     have ebi : badI t x c P i = false := by
      unfold badI; rw [List.any_eq_false]
      intro a ha hb
      obtain ⟨j, hj, rfl⟩ := List.getElem_of_mem ha
      have := hr j (by omega)
      rw [show (pmtS t x i).getD j 0 = (pmtS t x i)[j] by simp [List.getD, hj], hb] at this
      cases this
     refine c_reg fun K hK => ?_
     simp only [vm, vr, kk, reduceIte, Nat.reduceEqDiff]
     (refine hK _ ?_; clear hK K)
     refine c_if _ rfl (fun hb4 => ?_) (fun hb4 => ?_) <;> (have hp4 := hb4; try simp only [] at hp4)
     cases hb4
     refine c_exit ?_
     simp only [thenV_n, thenV_e, blockV_n, blockV_e, reduceIte, Nat.reduceEqDiff]
     refine c_reg1 fun K hK => ?_
     simp only [vm, vr, reduceIte, Nat.reduceEqDiff]
     (simp (disch := omega) only [wr64]; try simp only [vm, vr, vt, vp, q8, mapls, kk, hb1, hb2, hb3, hb4, Int.reduceBNe, Int.reduceBEq, Int.reduceLT, Int.reduceLE, Int.reduceGT, Int.reduceGE, decide_true, decide_false, bne_self_eq_false, beq_self_eq_true, reduceIte, Nat.reduceEqDiff, Nat.reduceAdd, Nat.reduceLeDiff, Nat.reduceMul, Nat.reduceLT, reduceCtorEq])
     (refine hK _ ?_; clear hK K)
     simp only [thenV_n]
     refine ⟨i + 1, ?_, ⟨by omega, fun j hj => ?_⟩, by omega⟩
     ·
      ((show Wk _ _ _; simp only [vm, vmk, reduceIte, Nat.reduceEqDiff, Nat.reduceAdd, Nat.reduceLT, reduceCtorEq]; (try simp (disch := omega) only [wr64]); try omega))
     ·
      by_cases e : j = i
      ·
       rw [e]; exact ebi
      ·
       exact hq j (by omega)
  ·
   have kl : decide ((i : Int) < (P.length : Int)) = false := decide_eq_false (by omega)
   obtain rfl : i = P.length := by omega
   have hbb : badB t x c P = false := by
    unfold badB; rw [List.any_eq_false]; exact fun j hj => by rw [hq j (by have := List.mem_range.1 hj; omega)]; decide
   rw [hbb, if_neg (by decide)]
   have hs40 := spec40 t x 0 ht hx (by omega)
   refine c_reg fun K hK => ?_
   simp only [vm, vr, kl, reduceIte, Nat.reduceEqDiff]
   (refine hK _ ?_; clear hK K)
   refine c_if _ rfl (fun hb3 => ?_) (fun hb3 => ?_) <;> (have hp3 := hb3; try simp only [] at hp3)
   cases hb3
   refine c_exit ?_
   simp only [thenV_n, thenV_e, blockV_e, reduceIte]
   refine c_reg fun K hK => ?_
   simp only [vm, vr]
   (refine hK _ ?_; clear hK K)
   refine c_assoc ?_
   refine c_reg fun K hK => ?_
   simp only [vm, vr, q8, reduceIte, Nat.reduceEqDiff, Nat.reduceAdd, Nat.reduceLeDiff, reduceCtorEq]
   (apply s_call (hs40); (case hf => rfl); (case hq => (simp only [vm, reduceIte, Nat.reduceEqDiff]; rfl)); (case hvs => rfl))
   simp only [vm, vr, q8, reduceIte, Nat.reduceEqDiff]
   (refine hK _ ?_; clear hK K)
   refine c_block ?_
   have hne := (pmt_ok (t := t) (x := x) 0).1
   refine vcode_loop (fun k : Nat => [(5, L.own 5 0), (6, L.p (nn 0)), (7, L.p (nn 0)), (20, L.p (nn (if k = 0 then 1099511627776 else minN (fun a => vAt P 0 a) (pmtS t x 0) k))), (132, L.p (V.sl (List.map nn (natL (pmtS t x 0))))), (133, L.p (nn (pmtS t x 0).length)), (134, L.p (nn k))]) (fun _ => [(Key.b 5, M.box 3), (Key.c 5 0, M.cell (L.p (nn c.op))), (Key.c 5 1, M.cell (L.p (nn c.ch))), (Key.c 5 2, M.cell (L.p (V.sl (P.map lsV))))]) (fun k => k ≤ (pmtS t x 0).length) (fun k => (pmtS t x 0).length - k) 0 (Nat.zero_le _) ?_ ?_
   ·
    simp only [vm, vmk, reduceIte, Nat.reduceEqDiff, Nat.reduceAdd, Nat.reduceLT, reduceCtorEq]
   ·
    intro k hk
    have hrow := bd_rows hodd (i := 0) (by omega)
    rcases Nat.lt_or_ge k (pmtS t x 0).length with hkl | hkl
    ·
     have kk : decide ((k : Int) < ((pmtS t x 0).length : Int)) = true := decide_eq_true (by omega)
     have hm := getD_memN hkl
     obtain ⟨ha, _⟩ := pmt_mem hm
     have na := natL_at (l := pmtS t x 0) (k := k)
     have hva := bd_vals hgrt (i := 0) (a := (pmtS t x 0).getD k 0) (by omega) (by omega)
     have hpl := pmt_len (t := t) (x := x) (i := 0)
     have h16 : 2 ^ t.banks.length ≤ 16 := cntA_le htl.2
     have hnx : (if k + 1 = 0 then (1099511627776 : Int) else minN (fun a => vAt P 0 a) (pmtS t x 0) (k + 1)) = min (if k = 0 then (1099511627776 : Int) else minN (fun a => vAt P 0 a) (pmtS t x 0) k) ((P.getD 0 default).getD ((pmtS t x 0).getD k 0) 0) := by
      have hv2 := hva.2
      unfold vAt at hv2
      rw [if_neg (by omega)]
      by_cases h0 : k = 0
      ·
       subst h0
       rw [if_pos rfl, minN_one hkl]
       show (P.getD 0 default).getD ((pmtS t x 0).getD 0 0) 0 = _
       omega
      ·
       rw [if_neg h0, minN_succ (by omega) hkl]
       show (if (P.getD 0 default).getD ((pmtS t x 0).getD k 0) 0 < _ then (P.getD 0 default).getD ((pmtS t x 0).getD k 0) 0 else _) = _
       split <;> omega
     generalize (if k = 0 then (1099511627776 : Int) else minN (fun a => vAt P 0 a) (pmtS t x 0) k) = B at *
     refine c_reg fun K hK => ?_
     simp only [vm, vr, kk, reduceIte, Nat.reduceEqDiff]
     (refine hK _ ?_; clear hK K)
     refine c_if _ rfl (fun hb4 => ?_) (fun hb4 => ?_) <;> (have hp4 := hb4; try simp only [] at hp4)
     refine c_skip ?_
     refine c_block ?_
     refine c_reg fun K hK => ?_
     simp only [vm, vr, q8, reduceIte, Nat.reduceEqDiff]
     (refine atI_map 0 (by first | assumption | omega | (simp; done) | (simp; omega)) (by first | assumption | omega | (simp; done) | (simp; omega)) ?_; simp only [vm, vr, q8, na])
     (refine hK _ ?_; clear hK K)
     refine c_reg1 fun K hK => ?_
     simp only [vm, vr, q8, reduceIte, Nat.reduceEqDiff, Nat.reduceAdd, Nat.reduceLeDiff, reduceCtorEq]
     (refine atI_map default (by first | assumption | omega | (simp; done) | (simp; omega)) (by first | assumption | omega | (simp; done) | (simp; omega)) ?_; simp only [vm, vr, vp, q8])
     (refine atI_map 0 (by first | assumption | omega | (simp; done) | (simp; omega)) (by first | assumption | omega | (simp; done) | (simp; omega)) ?_; simp only [vm, vr, q8])
     (refine hK _ ?_; clear hK K)
     simp only [thenV_n, blockV_n]
     refine c_reg1 fun K hK => ?_
     simp only [vm, vr, reduceIte, Nat.reduceEqDiff]
     (simp (disch := omega) only [wr64]; try simp only [vm, vr, vt, vp, q8, mapbnk, mapp2, mapls, kk, na, hb1, hb2, hbb, hb3, hb4, Int.reduceBNe, Int.reduceBEq, Int.reduceLT, Int.reduceLE, Int.reduceGT, Int.reduceGE, decide_true, decide_false, bne_self_eq_false, beq_self_eq_true, reduceIte, Nat.reduceEqDiff, Nat.reduceAdd, Nat.reduceLeDiff, Nat.reduceMul, Nat.reduceLT, reduceCtorEq])
     (refine hK _ ?_; clear hK K)
     simp only [thenV_n]
     rotate_left
     cases hb4
     refine ⟨k + 1, ?_, by omega, by omega⟩
     rw [hnx]
     ((show Wk _ _ _; simp only [vm, vmk, reduceIte, Nat.reduceEqDiff, Nat.reduceAdd, Nat.reduceLT, reduceCtorEq]; (try simp (disch := omega) only [wr64]); try omega))
    ·
     have kk : decide ((k : Int) < ((pmtS t x 0).length : Int)) = false := decide_eq_false (by omega)
     obtain rfl : k = (pmtS t x 0).length := by omega
     rw [if_neg (by have := List.length_pos_iff.2 hne; omega), minN_all]
     refine c_reg fun K hK => ?_
     simp only [vm, vr, kk, reduceIte, Nat.reduceEqDiff]
     (refine hK _ ?_; clear hK K)
     refine c_if _ rfl (fun hb4 => ?_) (fun hb4 => ?_) <;> (have hp4 := hb4; try simp only [] at hp4)
     cases hb4
     refine c_exit ?_
     simp only [thenV_n, thenV_e, blockV_e, reduceIte]
     refine c_reg fun K hK => ?_
     simp only [vm, vr, reduceIte, Nat.reduceEqDiff]
     (refine hK _ ?_; clear hK K)
     refine c_ret1 ?_
     simp only [vm, vr, reduceIte, Nat.reduceEqDiff]
end Go.Vm
