import Derived.Test.YtomnkckbmnbilaaDoorWpM
set_option linter.all false
namespace Go.Vm
open Go.Proofs
set_option maxRecDepth 20000
set_option maxHeartbeats 8000000
def q35 := (And.intro ty26 (And.intro ty31 (And.intro ty3 (And.intro ty23 (And.intro ty24 (And.intro ty27 ty60))))))
def q37 := (And.intro ty26 (And.intro ty29 (And.intro ty112 (And.intro ty34 (And.intro ty3 (And.intro ty23 (And.intro ty24 (And.intro ty9 (And.intro ty27 (And.intro ty81 ty60))))))))))
def q38 := (And.intro ty77 ty3)
def q39 := (And.intro ty77 ty3)
def q40 := (And.intro ty77 ty3)
def q96 := (And.intro ty113 (And.intro ty3 (And.intro ty120 (And.intro ty72 (And.intro ty79 ty77)))))
def q97 := (And.intro ty120 (And.intro ty79 (And.intro ty112 (And.intro ty122 (And.intro ty3 (And.intro ty77 (And.intro ty26 (And.intro ty81 (And.intro ty23 ty24)))))))))
def q98 := (And.intro ty122 (And.intro ty79 (And.intro ty23 (And.intro ty3 ty77))))
theorem mapp4 {xs : List ((Int × Int) × (Int × Int))} : (∀ y, y ∈ List.map p4 xs → y.cells.length = 4) = True := by
 simp only [List.mem_map, eq_iff_iff, iff_true]; rintro y ⟨a, _, rfl⟩; rfl
theorem spec96g (l : List D3) (g : FuncId) (a c : List V) (F : D3 → (Int × Int) × (Int × Int)) (hl : l.length < 1000000) (hf : ∀ k, k < l.length → Sp0 g (a ++ [d3 (l.getD k default)] ++ c) (R.v (p4 (F (l.getD k default))))) : Sp0 96 [.sl (l.map d3), .fn g a c] (R.v (.sl ((l.map F).map p4))) := by
 refine spec_of mixed (fun _ _ _ h => h) Tryd.func96 (by decide +kernel) rfl (rs := _) rfl (by rfl) rfl (by simp [Tryd.f96]) (by decide +kernel) ?_; simp only [argsG, Nat.zero_add]
 refine c_reg fun K hK => ?_
 simp only [vm]
 (refine hK _ ?_; clear hK K)
 refine c_reg fun K hK => ?_
 simp only [vm]
 (refine hK _ ?_; clear hK K)
 refine c_assoc ?_
 refine c_reg fun K hK => ?_
 simp only [vm, q96, reduceIte, Nat.reduceEqDiff, reduceCtorEq]
 (refine hK _ ?_; clear hK K)
 refine c_block ?_
 refine vcode_loop (fun i : Nat => [(1, L.p (V.fn g a c)), (5, L.arr 19 0), (8, L.p (V.sl (List.map d3 l))), (9, L.p (V.i IntKind.i64 ↑l.length)), (10, L.p (nn i))]) (fun i => [(Key.a 19, M.arr 0 79 4 ((each F l i).map p4))]) (fun i => i ≤ l.length) (fun i => l.length - i) 0 (Nat.zero_le _) ?_ ?_
 ·
  (simp only [vm, vmk, reduceIte, Nat.reduceEqDiff, Nat.reduceLT, reduceCtorEq]; try simp (disch := omega) only [wr64]; try omega)
  first | trivial | exact ⟨.inr trivial, rfl⟩ | rfl
 ·
  intro i hi
  have hel : (each F l i).length = i := each_len hi
  rcases Nat.lt_or_ge i l.length with hil | hil
  ·
   have kl : decide ((i : Int) < (l.length : Int)) = true := decide_eq_true (by omega)
   refine c_reg fun K hK => ?_
   simp only [vm, vr, kl, reduceIte, Nat.reduceEqDiff]
   (refine hK _ ?_; clear hK K)
   refine c_if _ rfl (fun hb1 => ?_) (fun hb1 => ?_) <;> (have hp1 := hb1; try simp only [] at hp1)
   refine c_skip ?_
   refine c_block ?_
   refine c_reg fun K hK => ?_
   simp only [vm, vr, q96, reduceIte, Nat.reduceEqDiff, Nat.reduceAdd, Nat.reduceLeDiff, reduceCtorEq]
   (refine atI_map default (by first | assumption | omega | (simp; done) | (simp; omega)) (by first | assumption | omega | (simp; done) | (simp; omega)) ?_; simp only [vm, vr, q96, reduceIte, Nat.reduceEqDiff, Nat.reduceAdd, reduceCtorEq])
   refine need_by (by first | assumption | omega | (simp; done) | (simp; omega)) ?_
   (refine hK _ ?_; clear hK K)
   refine c_reg1 fun K hK => ?_
   simp only [vm, vr, q96, reduceIte, Nat.reduceEqDiff, Nat.reduceAdd, Nat.reduceLeDiff, reduceCtorEq]
   (apply s_call (hf _ ?s6301x1); (case hf => rfl); (case hq => (simp only [vm, reduceIte, Nat.reduceEqDiff]; rfl)); (case hvs => rfl); (case s6301x1 => first | assumption | omega | (simp; done) | (simp; omega)))
   simp only [vm, vr, vp, q96, reduceIte, Nat.reduceEqDiff, Nat.reduceAdd, Nat.reduceLeDiff, Nat.reduceMul, Nat.reduceLT, reduceCtorEq]
   refine need_by (by first | assumption | omega | (simp; done) | (simp; omega)) ?_
   refine need_by (by first | assumption | omega | (simp; done) | (simp; omega)) ?_
   (refine hK _ ?_; clear hK K)
   simp only [thenV_n, blockV_n]
   refine c_reg1 fun K hK => ?_
   simp only [vm, vr, reduceIte, Nat.reduceEqDiff]
   (simp (disch := omega) only [wr64]; try simp only [vm, vr, vt, vp, q96, mapd3, conts_arr, mapp4, kl, hb1, Int.reduceBNe, Int.reduceBEq, Int.reduceLT, Int.reduceLE, Int.reduceGT, Int.reduceGE, decide_true, decide_false, bne_self_eq_false, beq_self_eq_true, reduceIte, Nat.reduceEqDiff, Nat.reduceAdd, Nat.reduceLeDiff, Nat.reduceMul, Nat.reduceLT, reduceCtorEq])
   (refine hK _ ?_; clear hK K)
   simp only [thenV_n]
   rotate_left
   cases hb1
   all_goals first
    | omega
    | (simp; done)
    | (refine ⟨i + 1, ?_, by omega, by omega⟩; ((show Wk _ _ _; simp only [vm, vmk, reduceIte, Nat.reduceEqDiff, reduceCtorEq]; try simp (disch := omega) only [wr64]; try omega)); (refine ⟨by omega, ?_⟩; rw [each_succ hil, List.map_append]; try rfl))
  ·
   have kl : decide ((i : Int) < (l.length : Int)) = false := decide_eq_false_iff_not.2 (by omega)
   refine c_reg fun K hK => ?_
   simp only [vm, vr, kl, reduceIte, Nat.reduceEqDiff]
   (refine hK _ ?_; clear hK K)
   refine c_if _ rfl (fun hb1 => ?_) (fun hb1 => ?_) <;> (have hp1 := hb1; try simp only [] at hp1)
   cases hb1
   refine c_exit ?_
   simp only [thenV_n, thenV_e, blockV_e, reduceIte]
   refine c_reg fun K hK => ?_
   simp only [vm, vr, reduceIte, Nat.reduceEqDiff]
   (refine hK _ ?_; clear hK K)
   refine c_ret1 ?_
   simp only [vm, vr, reduceIte, Nat.reduceEqDiff]
   rw [each_all hil]
end Go.Vm
