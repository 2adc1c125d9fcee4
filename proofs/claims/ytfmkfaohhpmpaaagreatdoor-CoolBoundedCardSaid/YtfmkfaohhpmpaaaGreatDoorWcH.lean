import Derived.Test.YtfmkfaohhpmpaaaGreatDoorVmBC
import Derived.Test.YtfmkfaohhpmpaaaGreatDoorWcP
set_option linter.all false
namespace Go.Vm
open Go.Proofs
set_option maxRecDepth 20000
set_option maxHeartbeats 8000000
/-- A tick added to commands. -/
def cmdL (l : List (Int × Int)) (tick : Int) : List (Int × Int) := if 0 < l.length ∧ (l.getD (l.length - 1) default).2 + 1 = tick then l.set (l.length - 1) ((l.getD (l.length - 1) default).1, tick) else l ++ [(tick, tick)]
theorem spec65 (l : List (Int × Int)) (tick : Int) (hl : l.length < 1000000) (hb : ∀ i, i < l.length → -1000000 ≤ (l.getD i default).2 ∧ (l.getD i default).2 ≤ 1000000) : Sp0 65 [oV 59 2 (l.map p2), nn tick] (.one (.c (.arr 59 2 ((cmdL l tick).map p2)))) := by
 refine spec_of_o (pre := []) (post := [nn tick]) mixed (fun _ _ _ h => h) Tryz.func65 (by decide +kernel) rfl (rs := _) rfl (by rfl) (by rfl) rfl (by simp [Tryz.f65]) (by decide +kernel) ?_; simp only [argsL, List.map_cons, List.map_nil, List.nil_append, siteO, Nat.zero_add]
 refine c_reg fun K hK => ?_
 simp only [vm, vr]
 (refine hK _ ?_; clear hK K)
 refine c_assoc ?_
 refine c_reg fun K hK => ?_
 simp only [vm, vr, q65, reduceIte, Nat.reduceEqDiff, reduceCtorEq]
 (refine hK _ ?_; clear hK K)
 refine c_assoc ?_
 refine c_reg fun K hK => ?_
 simp only [vm, vr, q65, reduceIte, Nat.reduceEqDiff, Nat.reduceAdd, reduceCtorEq]
 refine guard_by (fun hb1 => ?_) (fun hb1 => ?_) <;> (have hp1 := hb1; try simp only [decide_eq_true_eq, decide_eq_false_iff_not, Int.not_lt] at hp1)
 simp only [vm, hb1]
 simp (disch := omega) only [wr64]
 simp only [vp]
 refine need_by (by first | assumption | omega | (simp; done) | (simp; omega)) ?_
 (refine want_map default (by first | assumption | omega | (simp; done) | (simp; omega)) ?_; simp only [vm, vr, reduceIte, Nat.reduceAdd, Nat.reduceLeDiff])
 (refine hK _ ?_; clear hK K)
 refine c_if _ rfl (fun hb2 => ?_) (fun hb2 => ?_) <;> (have hp2 := hb2; try simp only [beq_iff_eq, beq_eq_false_iff_ne] at hp2)
 refine c_assoc ?_
 refine c_reg fun K hK => ?_
 simp only [vm, vr, q65, hb2, reduceIte, Nat.reduceEqDiff, Nat.reduceAdd, reduceCtorEq]
 simp (disch := omega) only [wr64]
 simp only [vp]
 refine need_by (by first | assumption | omega | (simp; done) | (simp; omega)) ?_
 (refine want_map default (by first | assumption | omega | (simp; done) | (simp; omega)) ?_; simp only [vm, vr, Nat.reduceAdd, Nat.reduceLeDiff])
 (refine hK _ ?_; clear hK K)
 refine c_assoc ?_
 refine c_reg fun K hK => ?_
 simp only [vm, vr, reduceIte, Nat.reduceEqDiff, reduceCtorEq]
 (refine hK _ ?_; clear hK K)
 refine c_ret ?_
 simp only [vm, vr, reduceIte, Nat.reduceEqDiff, reduceCtorEq]
 rotate_left
 refine c_skip ?_
 refine c_reg fun K hK => ?_
 simp only [vm, vr, vp, q65, hb2, reduceIte, Nat.reduceEqDiff, Nat.reduceAdd, Nat.reduceLeDiff, Nat.reduceMul, Nat.reduceLT, reduceCtorEq]
 refine need_by (by first | assumption | omega | (simp; done) | (simp; omega)) ?_
 refine need_by (by first | assumption | omega | (simp; done) | (simp; omega)) ?_
 (refine hK _ ?_; clear hK K)
 refine c_ret1 ?_
 simp only [vm, vr, reduceIte, Nat.reduceEqDiff, reduceCtorEq]
 rotate_left
 simp only [vm, hb1]
 (refine hK _ ?_; clear hK K)
 refine c_if _ rfl (fun hb3 => ?_) (fun hb3 => ?_) <;> (have hp3 := hb3; try simp only [] at hp3)
 cases hb3
 refine c_skip ?_
 refine c_reg fun K hK => ?_
 simp only [vm, vr, vp, q65, reduceIte, Nat.reduceEqDiff, Nat.reduceAdd, Nat.reduceLeDiff, Nat.reduceMul, Nat.reduceLT, reduceCtorEq]
 refine need_by (by first | assumption | omega | (simp; done) | (simp; omega)) ?_
 refine need_by (by first | assumption | omega | (simp; done) | (simp; omega)) ?_
 (refine hK _ ?_; clear hK K)
 refine c_ret1 ?_
 simp only [vm, vr, reduceIte, Nat.reduceEqDiff, reduceCtorEq]
 rotate_left
 ·
  have hL : cmdL l tick = l.set (l.length - 1) ((l.getD (l.length - 1) default).1, tick) := by
   unfold cmdL
   have := hb (l.length - 1) (by omega)
   rw [wr64 (by omega) (by omega)] at hp2
   rw [if_pos ⟨by omega, hp2⟩]
  rw [hL, List.map_set]
  exact ⟨_, rfl, rfl⟩
 ·
  have hL : cmdL l tick = l ++ [(tick, tick)] := by
   unfold cmdL
   have := hb (l.length - 1) (by omega)
   rw [wr64 (by omega) (by omega)] at hp2
   rw [if_neg (fun c => hp2 c.2)]
  rw [hL]
  exact ⟨_, rfl, rfl⟩
 ·
  have hL : cmdL l tick = l ++ [(tick, tick)] := by
   unfold cmdL
   rw [if_neg (fun c => by omega)]
  rw [hL]
  exact ⟨_, rfl, rfl⟩
end Go.Vm
