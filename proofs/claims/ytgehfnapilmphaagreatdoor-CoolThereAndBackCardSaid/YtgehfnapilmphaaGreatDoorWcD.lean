import Derived.Test.YtgehfnapilmphaaGreatDoorVmBC
import Derived.Test.YtgehfnapilmphaaGreatDoorWcC
set_option linter.all false
namespace Go.Vm
open Go.Proofs
set_option maxRecDepth 20000
set_option maxHeartbeats 8000000
--DEF TAB = nn t.water; nn t.air; V.sl (t.banks.map bnkV)
theorem conts_arr {σ : VS} {t g : Nat} : conts σ (.arr t g) = (curA σ t g).map fun x => (x.2, [.a t]) := rfl
theorem cvis {n : Int} {K : Eff → Prop} : vconv Tryz.prog 3 82 (.p (.i .i64 n)) K = K ⟨.p (.i .u64 (IntKind.wrap .u64 n)), [], []⟩ := vconv_ii tu3 tu82
theorem cvsi {n : Int} {K : Eff → Prop} : vconv Tryz.prog 82 3 (.p (.i .u64 n)) K = K ⟨.p (.i .i64 (IntKind.wrap .i64 n)), [], []⟩ := vconv_ii tu82 tu3
theorem set_ok {t : CTab} {n : Int} (ht : TabOk t) (h : setE t n = 0) : ∃ s : Nat, n = (s : Int) ∧ s < 2 ^ t.banks.length ∧ s < 16 := by
  have k : 2 ^ t.banks.length ≤ 2 ^ 4 := Nat.pow_le_pow_right (by omega) ht.len.2
  have k2 : (2 : Nat) ^ 4 = 16 := rfl
  have h1 := wi2.1 (unless_ok (e := 2) (by decide) h)
  exact ⟨n.toNat, by omega, by omega, by omega⟩
theorem spec10 (t : CTab) (hl : t.banks.length < 1000000) : Sp0 10 [ctV t] (.one (.agg [.p (nn t.water), .p (nn t.air), .arr 97 3 (t.banks.map bnkV)])) := by
  refine spec_of_x mixed (fun _ _ _ h => h) Tryz.func10 (by decide +kernel) rfl (rs := _) rfl (by rfl) rfl (by simp [Tryz.f10]) (by decide +kernel) ?_; simp only [argsG]
  refine c_reg fun K hK => ?_
  simp (maxSteps := 2000000) only [vm, vr, q10, reduceIte, Nat.reduceEqDiff, Nat.reduceAdd, reduceCtorEq]
  refine need_by (by first | assumption | omega | (simp; done) | (simp; omega)) ?_
  refine need_by (by first | assumption | omega | (simp; done) | (simp; omega)) ?_
  (refine hK _ ?_; clear hK; clear K)
  refine c_reg fun K hK => ?_
  simp (maxSteps := 2000000) only [vm, vr, vp, q10, mapbnk, reduceIte, Nat.reduceEqDiff, Nat.reduceAdd, Nat.reduceLeDiff, Nat.reduceMul, Nat.reduceLT, reduceCtorEq]
  refine need_by (by first | assumption | omega | (simp; done) | (simp; omega)) ?_
  refine need_by (by first | assumption | omega | (simp; done) | (simp; omega)) ?_
  (refine hK _ ?_; clear hK; clear K)
  refine c_reg fun K hK => ?_
  simp (maxSteps := 2000000) only [vm, vr, vp, q10, reduceIte, Nat.reduceEqDiff, Nat.reduceAdd, Nat.reduceLeDiff, reduceCtorEq]
  (refine hK _ ?_; clear hK; clear K)
  refine c_ret1 ?_
  simp (maxSteps := 2000000) only [vm, vr, vp, q10, reduceIte, Nat.reduceEqDiff, Nat.reduceAdd, Nat.reduceLeDiff, reduceCtorEq]
  exact ⟨_, rfl, rfl⟩
end Go.Vm
