import Derived.Test.YtfmkfaohhpmpaaaGreatDoorVmBC
import Derived.Test.YtfmkfaohhpmpaaaGreatDoorWcC
set_option linter.all false
namespace Go.Vm
open Go.Proofs
set_option maxRecDepth 20000
set_option maxHeartbeats 8000000
--DEF TAB = nn t.water; nn t.air; V.sl (t.banks.map bnkV)
theorem conts_arr {σ : VS} {t g : Nat} : conts σ (.arr t g) = (curA σ t g).map fun x => (x.2, [.a t]) := rfl
theorem cvis {n : Int} {K : Eff → Prop} : vconv Tryz.prog 3 111 (.p (.i .i64 n)) K = K ⟨.p (.i .u64 (IntKind.wrap .u64 n)), [], []⟩ := vconv_ii tu3 tu111
theorem cvsi {n : Int} {K : Eff → Prop} : vconv Tryz.prog 111 3 (.p (.i .u64 n)) K = K ⟨.p (.i .i64 (IntKind.wrap .i64 n)), [], []⟩ := vconv_ii tu111 tu3
theorem spec62 (t : CTab) (s : Nat) (r : Int × Int) (ht : TabOk t) (hs : s < 16) (hr : rgE r 12000 = 0) : Sp0 62 [ctV t, uu s, p2 r] (R.v (p2 (pasR t s r))) := by
 have h := rgE_ok hr
 have hb := ht.bank
 have hs89 := passed_of t s r.1 90 CBank.hi ht hs (by omega) (fun a b => spec90 a b) (fun _ => rfl) (fun i hi => by have := hb i hi; omega)
 have hs89w2 := passed_of t s r.2 91 CBank.lo ht hs (by omega) (fun a b => spec91 a b) (fun _ => rfl) (fun i hi => by have := hb i hi; omega)
 refine spec_of mixed (fun _ _ _ h => h) Tryz.func62 (by decide +kernel) rfl (rs := _) rfl (by rfl) rfl (by simp [Tryz.f62]) (by decide +kernel) ?_; simp only [argsG, Nat.zero_add, Nat.reduceAdd]
 refine c_reg fun K hK => ?_
 simp only [vm, vr, q62, reduceIte, Nat.reduceEqDiff, Nat.reduceAdd, reduceCtorEq]
 refine need_by (by first | assumption | omega | (simp; done) | (simp; omega)) ?_
 refine need_by (by first | assumption | omega | (simp; done) | (simp; omega)) ?_
 refine need_by (by first | assumption | omega | (simp; done) | (simp; omega)) ?_
 (refine hK _ ?_; clear hK K)
 refine c_draw fun K hK => ?_
 simp only [vm, vr, q62, reduceIte, Nat.reduceEqDiff, Nat.reduceAdd, Nat.reduceLeDiff, reduceCtorEq]
 (apply d_call (hs89); (case hf => rfl); (case hq => (simp only [vm, reduceIte, Nat.reduceEqDiff, reduceCtorEq]; rfl)); (case hvs => rfl))
 simp only [vm, vr, q62, reduceIte, Nat.reduceEqDiff, Nat.reduceAdd, Nat.reduceLeDiff, reduceCtorEq]
 (apply d_call (hs89w2); (case hf => rfl); (case hq => (simp only [vm, reduceIte, Nat.reduceEqDiff, reduceCtorEq]; rfl)); (case hvs => rfl))
 simp only [vm, vr, q62, reduceIte, Nat.reduceEqDiff, Nat.reduceAdd, Nat.reduceLeDiff, reduceCtorEq]
 (refine draw_ok (by decide +kernel) (hK _ ?_); clear hK; clear K)
 refine c_ret1 ?_
 simp only [vm, q62, reduceIte, Nat.reduceEqDiff, Nat.reduceAdd, Nat.reduceLeDiff, reduceCtorEq]
 rfl
theorem set_ok {t : CTab} {n : Int} (ht : TabOk t) (h : setE t n = 0) : ∃ s : Nat, n = (s : Int) ∧ s < 2 ^ t.banks.length ∧ s < 16 := by
 have k : 2 ^ t.banks.length ≤ 2 ^ 4 := Nat.pow_le_pow_right (by omega) ht.len.2
 have k2 : (2 : Nat) ^ 4 = 16 := rfl
 have h1 := wi2.1 (unless_ok (e := 2) (by decide) h)
 exact ⟨n.toNat, by omega, by omega, by omega⟩
theorem spec9 (t : CTab) (hl : t.banks.length < 1000000) : Sp0 9 [ctV t] (.one (.agg [.p (nn t.water), .p (nn t.air), .arr 115 3 (t.banks.map bnkV)])) := by
 refine spec_of_x mixed (fun _ _ _ h => h) Tryz.func9 (by decide +kernel) rfl (rs := _) rfl (by rfl) rfl (by simp [Tryz.f9]) (by decide +kernel) ?_; simp only [argsG]
 refine c_reg fun K hK => ?_
 simp only [vm, vr, q9, reduceIte, Nat.reduceEqDiff, Nat.reduceAdd, reduceCtorEq]
 refine need_by (by first | assumption | omega | (simp; done) | (simp; omega)) ?_
 refine need_by (by first | assumption | omega | (simp; done) | (simp; omega)) ?_
 (refine hK _ ?_; clear hK K)
 refine c_reg fun K hK => ?_
 simp only [vm, vr, vp, q9, mapbnk, reduceIte, Nat.reduceEqDiff, Nat.reduceAdd, Nat.reduceLeDiff, Nat.reduceMul, Nat.reduceLT, reduceCtorEq]
 refine need_by (by first | assumption | omega | (simp; done) | (simp; omega)) ?_
 refine need_by (by first | assumption | omega | (simp; done) | (simp; omega)) ?_
 (refine hK _ ?_; clear hK K)
 refine c_reg fun K hK => ?_
 simp only [vm, vr, vp, q9, reduceIte, Nat.reduceEqDiff, Nat.reduceAdd, Nat.reduceLeDiff, reduceCtorEq]
 (refine hK _ ?_; clear hK K)
 refine c_ret1 ?_
 simp only [vm, vr, vp, q9, reduceIte, Nat.reduceEqDiff, Nat.reduceAdd, Nat.reduceLeDiff, reduceCtorEq]
 exact ⟨_, rfl, rfl⟩
end Go.Vm
