import Derived.Test.YtfmkfaohhpmpaaaGreatDoorVmBC
import Derived.Test.YtfmkfaohhpmpaaaGreatDoorWcCs
import Derived.Test.YtfmkfaohhpmpaaaGreatDoorWcR
import Derived.Test.YtfmkfaohhpmpaaaGreatDoorWcRep
set_option linter.all false
namespace Go.Vm
open Go.Proofs
set_option maxRecDepth 20000
set_option maxHeartbeats 8000000
--DEF Q = q16
/-- What a row says at a place. -/
def aftF (c : CPri) (a : Nat) (row : List Int) (n : Nat) : Int := lowN nvC (fun b => chgC c a b + row.getD b 0) n
theorem aftF_0 {c : CPri} {a : Nat} {row : List Int} : aftF c a row 0 = nvC := rfl
theorem aftF_succ {c : CPri} {a : Nat} {row : List Int} {n : Nat} : aftF c a row (n + 1) = min (aftF c a row n) (chgC c a n + row.getD n 0) := rfl
theorem aftF_bound {c : CPri} {a : Nat} {row : List Int} (hc : priE c = 0) (hr : ∀ b, b < row.length → 0 ≤ row.getD b 0 ∧ row.getD b 0 ≤ nvC) : ∀ {n : Nat}, n ≤ row.length → 0 ≤ aftF c a row n ∧ aftF c a row n ≤ nvC
 | 0, _ => by rw [aftF_0]; unfold nvC; omega
 | n + 1, h => by
  have ih := aftF_bound (a := a) hc hr (n := n) (by omega)
  have h1 := chg_bound hc a n
  have h2 := hr n (by omega)
  rw [aftF_succ]; omega
theorem spec53 (c : CPri) (a : Nat) (row : List Int) (hc : priE c = 0) (ha : a < 16) (hl : row.length ≤ 16) (hr : ∀ b, b < row.length → 0 ≤ row.getD b 0 ∧ row.getD b 0 ≤ nvC) : Sp0 53 [cpV c, nn a, .sl (row.map nn)] (R.v (nn (aftF c a row row.length))) := by
 refine spec_of mixed (fun _ _ _ h => h) Tryz.func53 (by decide +kernel) rfl (rs := _) rfl (by rfl) rfl (by simp [Tryz.f53]) (by decide +kernel) ?_; simp only [argsG, Nat.zero_add, Nat.reduceAdd]
 refine c_reg fun K hK => ?_
 simp only [vm, vr, reduceIte, Nat.reduceAdd, reduceCtorEq]
 refine need_by (by first | assumption | omega | (simp; done) | (simp; omega)) ?_
 (refine hK _ ?_; clear hK K)
 refine c_reg fun K hK => ?_
 simp only [vm, vr]
 (refine hK _ ?_; clear hK K)
 refine c_assoc ?_
 refine c_reg fun K hK => ?_
 simp only [vm, vr, q53, reduceIte, Nat.reduceEqDiff, reduceCtorEq]
 (refine hK _ ?_; clear hK K)
 refine c_block ?_
 refine vcode_loop (fun n : Nat => [(1, L.p (nn a)), (3, L.own 3 0), (6, L.p (nn 0)), (7, L.p (nn (aftF c a row n))), (10, L.p (V.sl (List.map nn row))), (11, L.p (nn row.length)), (12, L.p (nn n))]) (fun n => [(Key.b 3, M.box 2), (Key.c 3 0, M.cell (L.p (nn c.op))), (Key.c 3 1, M.cell (L.p (nn c.ch)))]) (fun n => n ≤ row.length) (fun n => row.length - n) 0 (Nat.zero_le _) ?_ ?_
 ·
  simp only [vm, aftF_0, vmk, reduceIte, Nat.reduceEqDiff, Nat.reduceAdd, Nat.reduceLT, reduceCtorEq]
 ·
  intro n hn
  rcases Nat.lt_or_ge n row.length with hnl | hnl
  ·
   have kl : decide ((n : Int) < (row.length : Int)) = true := decide_eq_true (by omega)
   have hs42 : Sp0 42 [.agg [nn c.op, nn c.ch], nn a, nn n] (R.v (nn (chgC c a n))) := spec42 c a n hc ha (by omega)
   have h1 := chg_bound hc a n
   have h2 := hr n hnl
   have h3 : nvC = 1099511627776 := rfl
   have hsu := aftF_succ (c := c) (a := a) (row := row) (n := n)
   generalize chgC c a n = X at *
   have w1 : IntKind.wrap .i64 (X + row.getD n 0) = X + row.getD n 0 := wr64 (by omega) (by omega)
   refine c_reg fun K hK => ?_
   simp only [vm, vr, kl, reduceIte, Nat.reduceEqDiff]
   (refine hK _ ?_; clear hK K)
   refine c_if _ rfl (fun hb1 => ?_) (fun hb1 => ?_) <;> (have hp1 := hb1; try simp only [] at hp1)
   refine c_skip ?_
   refine c_block ?_
   refine c_reg fun K hK => ?_
   simp only [vm, vr, q53, reduceIte, Nat.reduceEqDiff]
   (refine atI_map 0 (by first | assumption | omega | (simp; done) | (simp; omega)) (by first | assumption | omega | (simp; done) | (simp; omega)) ?_; simp only [vm, vr, q53])
   (refine hK _ ?_; clear hK K)
   refine c_reg1 fun K hK => ?_
   simp only [vm, vr, q53, reduceIte, Nat.reduceEqDiff, Nat.reduceAdd, Nat.reduceLeDiff, reduceCtorEq]
   (apply s_call (hs42); (case hf => rfl); (case hq => (simp only [vm, reduceIte, Nat.reduceEqDiff]; rfl)); (case hvs => rfl))
   simp only [vm, vr, w1, reduceIte, Nat.reduceEqDiff]
   (refine hK _ ?_; clear hK K)
   simp only [thenV_n, blockV_n]
   refine c_reg1 fun K hK => ?_
   simp only [vm, vr, reduceIte, Nat.reduceEqDiff]
   (simp (disch := omega) only [wr64]; try simp only [vm, vr, vt, vp, q53, kl, w1, hb1, Int.reduceBNe, Int.reduceBEq, Int.reduceLT, Int.reduceLE, Int.reduceGT, Int.reduceGE, decide_true, decide_false, bne_self_eq_false, beq_self_eq_true, reduceIte, Nat.reduceEqDiff, Nat.reduceAdd, Nat.reduceLeDiff, Nat.reduceMul, Nat.reduceLT, reduceCtorEq])
   (refine hK _ ?_; clear hK K)
   simp only [thenV_n]
   rotate_left
   cases hb1
   refine ⟨n + 1, ?_, by omega, by omega⟩
   rw [hsu]
   ((show Wk _ _ _; simp only [vm, vmk, reduceIte, Nat.reduceEqDiff, Nat.reduceAdd, Nat.reduceLT, reduceCtorEq]; (try simp (disch := omega) only [wr64]); try omega))
   all_goals first | omega | (simp; done) | exact ⟨by omega, by simp⟩
  ·
   have kl : decide ((n : Int) < (row.length : Int)) = false := decide_eq_false (by omega)
   obtain rfl : n = row.length := by omega
   refine c_reg fun K hK => ?_
   simp only [vm, vr, kl, reduceIte, Nat.reduceEqDiff]
   (refine hK _ ?_; clear hK K)
   refine c_if _ rfl (fun hb1 => ?_) (fun hb1 => ?_) <;> (have hp1 := hb1; try simp only [] at hp1)
   cases hb1
   refine c_exit ?_
   simp only [thenV_n, thenV_e, blockV_e, reduceIte]
   refine c_reg fun K hK => ?_
   simp only [vm, vr, reduceIte, Nat.reduceEqDiff]
   (refine hK _ ?_; clear hK K)
   refine c_ret1 ?_
   simp only [vm, vr, reduceIte, Nat.reduceEqDiff]
theorem spec54w0 (c : CPri) (a : Nat) : Sp0 54 [cpV c, .sl [], nn a] (R.v (nn 0)) := by
 refine spec_of mixed (fun _ _ _ h => h) Tryz.func54 (by decide +kernel) rfl (rs := _) rfl (by rfl) rfl (by simp [Tryz.f54]) (by decide +kernel) ?_; simp only [argsG, Nat.zero_add, Nat.reduceAdd]
 refine c_reg fun K hK => ?_
 simp only [vm, vr, reduceIte, Nat.reduceAdd, reduceCtorEq]
 refine need_by (by first | assumption | omega | (simp; done) | (simp; omega)) ?_
 (refine hK _ ?_; clear hK K)
 refine c_assoc ?_
 refine c_reg fun K hK => ?_
 simp only [vm, vr, vp, q54, beq_self_eq_true, reduceIte, Nat.reduceEqDiff, reduceCtorEq]
 (refine hK _ ?_; clear hK K)
 refine c_if _ rfl (fun hb1 => ?_) (fun hb1 => ?_) <;> (have hp1 := hb1; try simp only [] at hp1)
 refine c_assoc ?_
 refine c_reg fun K hK => ?_
 simp only [vm, vr]
 (refine hK _ ?_; clear hK K)
 refine c_ret ?_
 simp only [vm, vr, reduceIte, Nat.reduceEqDiff, reduceCtorEq]
 cases hb1
theorem spec54 (c : CPri) (a b : Nat) (l : List Int) (hc : priE c = 0) (ha : a < 16) (hb : b < 16) (h0 : l.length ≠ 0) (hl : l.length < 1000000) (he : l.getD (l.length - 1) 0 = (b : Int)) : Sp0 54 [cpV c, .sl (l.map nn), nn a] (R.v (nn (chgC c b a))) := by
 have k0 : ((l.length : Int) == 0) = false := by rw [beq_eq_false_iff_ne]; omega
 have wn : IntKind.wrap .i64 ((l.length : Int) - 1) = ((l.length - 1 : Nat) : Int) := by rw [wr64 (by omega) (by omega)]; omega
 have hs42 : Sp0 42 [.agg [nn c.op, nn c.ch], nn b, nn a] (R.v (nn (chgC c b a))) := spec42 c b a hc hb ha
 refine spec_of mixed (fun _ _ _ h => h) Tryz.func54 (by decide +kernel) rfl (rs := _) rfl (by rfl) rfl (by simp [Tryz.f54]) (by decide +kernel) ?_; simp only [argsG, Nat.zero_add, Nat.reduceAdd]
 refine c_reg fun K hK => ?_
 simp only [vm, vr, reduceIte, Nat.reduceAdd, reduceCtorEq]
 refine need_by (by first | assumption | omega | (simp; done) | (simp; omega)) ?_
 (refine hK _ ?_; clear hK K)
 refine c_assoc ?_
 refine c_reg fun K hK => ?_
 simp only [vm, vr, q54, k0, reduceIte, Nat.reduceEqDiff, reduceCtorEq]
 (refine hK _ ?_; clear hK K)
 refine c_if _ rfl (fun hb1 => ?_) (fun hb1 => ?_) <;> (have hp1 := hb1; try simp only [] at hp1)
 cases hb1
 refine c_skip ?_
 refine c_draw fun K hK => ?_
 simp only [vm, vr, q54, wn, reduceIte, Nat.reduceEqDiff, Nat.reduceAdd, Nat.reduceLeDiff, reduceCtorEq]
 (refine atI_map 0 (by first | assumption | omega | (simp; done) | (simp; omega)) (by first | assumption | omega | (simp; done) | (simp; omega)) ?_; simp only [vm, vr, q54, he])
 (apply d_call (hs42); (case hf => rfl); (case hq => (simp only [vm, reduceIte, Nat.reduceEqDiff, reduceCtorEq]; rfl)); (case hvs => rfl))
 simp only [vm, vr, reduceIte, Nat.reduceEqDiff, reduceCtorEq]
 (refine draw_ok (by decide +kernel) (hK _ ?_); clear hK; clear K)
 refine c_ret1 ?_
 simp only [vm, vr, reduceIte, Nat.reduceEqDiff, reduceCtorEq]
end Go.Vm
