import Derived.Test.YtaoocondfgkpnaaGreatDoorVmBC
import Derived.Test.YtaoocondfgkpnaaGreatDoorWpT
set_option linter.all false
namespace Go.Vm
open Go.Proofs
set_option maxRecDepth 20000
set_option maxHeartbeats 8000000
abbrev p4 (p : (Int × Int) × (Int × Int)) : V := .agg [nn p.1.1, nn p.1.2, nn p.2.1, nn p.2.2]
theorem mapp4 {xs : List ((Int × Int) × (Int × Int))} : (∀ y, y ∈ List.map p4 xs → y.cells.length = 4) = True := by
  simp only [List.mem_map, eq_iff_iff, iff_true]; rintro y ⟨a, _, rfl⟩; rfl
def each {β : Type} (F : D3 → β) (l : List D3) (n : Nat) : List β := (l.take n).map F
theorem each_succ {β : Type} {F : D3 → β} {l : List D3} {n : Nat} (h : n < l.length) : each F l (n + 1) = each F l n ++ [F (l.getD n default)] := by
  unfold each; rw [takeS default h, List.map_append]; rfl
theorem each_len {β : Type} {F : D3 → β} {l : List D3} {n : Nat} (h : n ≤ l.length) : (each F l n).length = n := by simp [each, h]
theorem each_all {β : Type} {F : D3 → β} {l : List D3} {n : Nat} (h : l.length ≤ n) : each F l n = l.map F := by unfold each; rw [List.take_of_length_le h]
theorem spec45g (l : List D3) (g : FuncId) (a c : List V) (F : D3 → Int × Int) (hl : l.length < 1000000) (hf : ∀ k, k < l.length → Sp0 g (a ++ [d3 (l.getD k default)] ++ c) (R.v (p2 (F (l.getD k default))))) : Sp0 45 [.sl (l.map d3), .fn g a c] (R.v (.sl ((l.map F).map p2))) := by
  refine spec_of mixed (fun _ _ _ h => h) Tryz.func45 (by decide +kernel) rfl (rs := _) rfl (by rfl) rfl (by simp [Tryz.f45]) (by decide +kernel) ?_; simp only [argsG, Nat.zero_add]
  refine c_reg fun K hK => ?_
  simp (maxSteps := 2000000) only [vm]
  (refine hK _ ?_; clear hK; clear K)
  refine c_reg fun K hK => ?_
  simp (maxSteps := 2000000) only [vm]
  (refine hK _ ?_; clear hK; clear K)
  refine c_assoc ?_
  refine c_reg fun K hK => ?_
  simp (maxSteps := 2000000) only [vm, q45, reduceIte, Nat.reduceEqDiff, reduceCtorEq]
  (refine hK _ ?_; clear hK; clear K)
  refine c_block ?_
  refine vcode_loop (fun i : Nat => [(1, L.p (V.fn g a c)), (5, L.arr 19 0), (8, L.p (V.sl (List.map d3 l))), (9, L.p (V.i IntKind.i64 ↑l.length)), (10, L.p (nn i))]) (fun i => [(Key.a 19, M.arr 0 48 2 ((each F l i).map p2))]) (fun i => i ≤ l.length) (fun i => l.length - i) 0 (Nat.zero_le _) ?_ ?_
  · (simp (maxSteps := 2000000) only [vm, vmk, reduceIte, Nat.reduceEqDiff, Nat.reduceLT, reduceCtorEq]; try simp (disch := omega) only [wr64]; try omega)
    first | trivial | exact ⟨.inr trivial, rfl⟩ | rfl
  · intro i hi
    have hel : (each F l i).length = i := each_len hi
    rcases Nat.lt_or_ge i l.length with hil | hil
    · have kl : decide ((i : Int) < (l.length : Int)) = true := decide_eq_true (by omega)
      refine c_reg fun K hK => ?_
      simp (maxSteps := 2000000) only [vm, vr, kl, reduceIte, Nat.reduceEqDiff]
      (refine hK _ ?_; clear hK; clear K)
      refine c_if _ rfl (fun hb1 => ?_) (fun hb1 => ?_) <;> (have hp1 := hb1; try simp only [] at hp1)
      refine c_skip ?_
      refine c_block ?_
      refine c_reg fun K hK => ?_
      simp (maxSteps := 2000000) only [vm, vr, q45, reduceIte, Nat.reduceEqDiff, Nat.reduceAdd, Nat.reduceLeDiff, reduceCtorEq]
      (refine atI_map default (by first | assumption | omega | (simp; done) | (simp; omega)) (by first | assumption | omega | (simp; done) | (simp; omega)) ?_; simp (maxSteps := 2000000) only [vm, vr, q45, reduceIte, Nat.reduceEqDiff, Nat.reduceAdd, reduceCtorEq])
      refine need_by (by first | assumption | omega | (simp; done) | (simp; omega)) ?_
      (refine hK _ ?_; clear hK; clear K)
      refine c_reg1 fun K hK => ?_
      simp (maxSteps := 2000000) only [vm, vr, q45, reduceIte, Nat.reduceEqDiff, Nat.reduceAdd, Nat.reduceLeDiff, reduceCtorEq]
      (apply s_call (hf _ ?s2701x1); (case hf => rfl); (case hq => (simp (maxSteps := 2000000) only [vm, reduceIte, Nat.reduceEqDiff]; rfl)); (case hvs => rfl); (case s2701x1 => first | assumption | omega | (simp; done) | (simp; omega)))
      simp (maxSteps := 2000000) only [vm, vr, vp, q45, reduceIte, Nat.reduceEqDiff, Nat.reduceAdd, Nat.reduceLeDiff, Nat.reduceMul, Nat.reduceLT, reduceCtorEq]
      refine need_by (by first | assumption | omega | (simp; done) | (simp; omega)) ?_
      refine need_by (by first | assumption | omega | (simp; done) | (simp; omega)) ?_
      (refine hK _ ?_; clear hK; clear K)
      simp only [thenV_n, blockV_n]
      refine c_reg1 fun K hK => ?_
      simp (maxSteps := 2000000) only [vm, vr, reduceIte, Nat.reduceEqDiff]
      (simp (disch := omega) only [wr64]; try simp (maxSteps := 2000000) only [vm, vr, vt, vp, q45, mapd3, conts_arr, mapp2, kl, hb1, Int.reduceBNe, Int.reduceBEq, Int.reduceLT, Int.reduceLE, Int.reduceGT, Int.reduceGE, decide_true, decide_false, bne_self_eq_false, beq_self_eq_true, reduceIte, Nat.reduceEqDiff, Nat.reduceAdd, Nat.reduceLeDiff, Nat.reduceMul, Nat.reduceLT, reduceCtorEq])
      (refine hK _ ?_; clear hK; clear K)
      simp only [thenV_n]
      rotate_left
      cases hb1
      all_goals first
        | omega
        | (simp; done)
        | (refine ⟨i + 1, ?_, by omega, by omega⟩; ((show Wk _ _ _; simp only [vm, vmk, reduceIte, Nat.reduceEqDiff, reduceCtorEq]; (try simp (disch := omega) only [wr64]); try omega)); (refine ⟨by omega, ?_⟩; rw [each_succ hil, List.map_append]; try rfl))
    · have kl : decide ((i : Int) < (l.length : Int)) = false := decide_eq_false_iff_not.2 (by omega)
      refine c_reg fun K hK => ?_
      simp (maxSteps := 2000000) only [vm, vr, kl, reduceIte, Nat.reduceEqDiff]
      (refine hK _ ?_; clear hK; clear K)
      refine c_if _ rfl (fun hb1 => ?_) (fun hb1 => ?_) <;> (have hp1 := hb1; try simp only [] at hp1)
      cases hb1
      refine c_exit ?_
      simp only [thenV_n, thenV_e, blockV_e, reduceIte]
      refine c_reg fun K hK => ?_
      simp (maxSteps := 2000000) only [vm, vr, reduceIte, Nat.reduceEqDiff]
      (refine hK _ ?_; clear hK; clear K)
      refine c_ret1 ?_
      simp (maxSteps := 2000000) only [vm, vr, reduceIte, Nat.reduceEqDiff]
      rw [each_all hil]
theorem spec59g (l : List D3) (g : FuncId) (a c : List V) (F : D3 → Int × Int) (hl : l.length < 1000000) (hf : ∀ k, k < l.length → Sp0 g (a ++ [d3 (l.getD k default)] ++ c) (R.v (p2 (F (l.getD k default))))) : Sp0 59 [.sl (l.map d3), .fn g a c] (R.v (.sl ((l.map F).map p2))) := by
  refine spec_of mixed (fun _ _ _ h => h) Tryz.func59 (by decide +kernel) rfl (rs := _) rfl (by rfl) rfl (by simp [Tryz.f59]) (by decide +kernel) ?_; simp only [argsG, Nat.zero_add]
  refine c_reg fun K hK => ?_
  simp (maxSteps := 2000000) only [vm]
  (refine hK _ ?_; clear hK; clear K)
  refine c_reg fun K hK => ?_
  simp (maxSteps := 2000000) only [vm]
  (refine hK _ ?_; clear hK; clear K)
  refine c_assoc ?_
  refine c_reg fun K hK => ?_
  simp (maxSteps := 2000000) only [vm, q59, reduceIte, Nat.reduceEqDiff, reduceCtorEq]
  (refine hK _ ?_; clear hK; clear K)
  refine c_block ?_
  refine vcode_loop (fun i : Nat => [(1, L.p (V.fn g a c)), (5, L.arr 19 0), (8, L.p (V.sl (List.map d3 l))), (9, L.p (V.i IntKind.i64 ↑l.length)), (10, L.p (nn i))]) (fun i => [(Key.a 19, M.arr 0 23 2 ((each F l i).map p2))]) (fun i => i ≤ l.length) (fun i => l.length - i) 0 (Nat.zero_le _) ?_ ?_
  · (simp (maxSteps := 2000000) only [vm, vmk, reduceIte, Nat.reduceEqDiff, Nat.reduceLT, reduceCtorEq]; try simp (disch := omega) only [wr64]; try omega)
    first | trivial | exact ⟨.inr trivial, rfl⟩ | rfl
  · intro i hi
    have hel : (each F l i).length = i := each_len hi
    rcases Nat.lt_or_ge i l.length with hil | hil
    · have kl : decide ((i : Int) < (l.length : Int)) = true := decide_eq_true (by omega)
      refine c_reg fun K hK => ?_
      simp (maxSteps := 2000000) only [vm, vr, kl, reduceIte, Nat.reduceEqDiff]
      (refine hK _ ?_; clear hK; clear K)
      refine c_if _ rfl (fun hb1 => ?_) (fun hb1 => ?_) <;> (have hp1 := hb1; try simp only [] at hp1)
      refine c_skip ?_
      refine c_block ?_
      refine c_reg fun K hK => ?_
      simp (maxSteps := 2000000) only [vm, vr, q59, reduceIte, Nat.reduceEqDiff, Nat.reduceAdd, Nat.reduceLeDiff, reduceCtorEq]
      (refine atI_map default (by first | assumption | omega | (simp; done) | (simp; omega)) (by first | assumption | omega | (simp; done) | (simp; omega)) ?_; simp (maxSteps := 2000000) only [vm, vr, q59, reduceIte, Nat.reduceEqDiff, Nat.reduceAdd, reduceCtorEq])
      refine need_by (by first | assumption | omega | (simp; done) | (simp; omega)) ?_
      (refine hK _ ?_; clear hK; clear K)
      refine c_reg1 fun K hK => ?_
      simp (maxSteps := 2000000) only [vm, vr, q59, reduceIte, Nat.reduceEqDiff, Nat.reduceAdd, Nat.reduceLeDiff, reduceCtorEq]
      (apply s_call (hf _ ?s4501x1); (case hf => rfl); (case hq => (simp (maxSteps := 2000000) only [vm, reduceIte, Nat.reduceEqDiff]; rfl)); (case hvs => rfl); (case s4501x1 => first | assumption | omega | (simp; done) | (simp; omega)))
      simp (maxSteps := 2000000) only [vm, vr, vp, q59, reduceIte, Nat.reduceEqDiff, Nat.reduceAdd, Nat.reduceLeDiff, Nat.reduceMul, Nat.reduceLT, reduceCtorEq]
      refine need_by (by first | assumption | omega | (simp; done) | (simp; omega)) ?_
      refine need_by (by first | assumption | omega | (simp; done) | (simp; omega)) ?_
      (refine hK _ ?_; clear hK; clear K)
      simp only [thenV_n, blockV_n]
      refine c_reg1 fun K hK => ?_
      simp (maxSteps := 2000000) only [vm, vr, reduceIte, Nat.reduceEqDiff]
      (simp (disch := omega) only [wr64]; try simp (maxSteps := 2000000) only [vm, vr, vt, vp, q59, mapd3, conts_arr, mapp2, kl, hb1, Int.reduceBNe, Int.reduceBEq, Int.reduceLT, Int.reduceLE, Int.reduceGT, Int.reduceGE, decide_true, decide_false, bne_self_eq_false, beq_self_eq_true, reduceIte, Nat.reduceEqDiff, Nat.reduceAdd, Nat.reduceLeDiff, Nat.reduceMul, Nat.reduceLT, reduceCtorEq])
      (refine hK _ ?_; clear hK; clear K)
      simp only [thenV_n]
      rotate_left
      cases hb1
      all_goals first
        | omega
        | (simp; done)
        | (refine ⟨i + 1, ?_, by omega, by omega⟩; ((show Wk _ _ _; simp only [vm, vmk, reduceIte, Nat.reduceEqDiff, reduceCtorEq]; (try simp (disch := omega) only [wr64]); try omega)); (refine ⟨by omega, ?_⟩; rw [each_succ hil, List.map_append]; try rfl))
    · have kl : decide ((i : Int) < (l.length : Int)) = false := decide_eq_false_iff_not.2 (by omega)
      refine c_reg fun K hK => ?_
      simp (maxSteps := 2000000) only [vm, vr, kl, reduceIte, Nat.reduceEqDiff]
      (refine hK _ ?_; clear hK; clear K)
      refine c_if _ rfl (fun hb1 => ?_) (fun hb1 => ?_) <;> (have hp1 := hb1; try simp only [] at hp1)
      cases hb1
      refine c_exit ?_
      simp only [thenV_n, thenV_e, blockV_e, reduceIte]
      refine c_reg fun K hK => ?_
      simp (maxSteps := 2000000) only [vm, vr, reduceIte, Nat.reduceEqDiff]
      (refine hK _ ?_; clear hK; clear K)
      refine c_ret1 ?_
      simp (maxSteps := 2000000) only [vm, vr, reduceIte, Nat.reduceEqDiff]
      rw [each_all hil]
theorem spec62g (l : List D3) (g : FuncId) (a c : List V) (F : D3 → (Int × Int) × (Int × Int)) (hl : l.length < 1000000) (hf : ∀ k, k < l.length → Sp0 g (a ++ [d3 (l.getD k default)] ++ c) (R.v (p4 (F (l.getD k default))))) : Sp0 62 [.sl (l.map d3), .fn g a c] (R.v (.sl ((l.map F).map p4))) := by
  refine spec_of mixed (fun _ _ _ h => h) Tryz.func62 (by decide +kernel) rfl (rs := _) rfl (by rfl) rfl (by simp [Tryz.f62]) (by decide +kernel) ?_; simp only [argsG, Nat.zero_add]
  refine c_reg fun K hK => ?_
  simp (maxSteps := 2000000) only [vm]
  (refine hK _ ?_; clear hK; clear K)
  refine c_reg fun K hK => ?_
  simp (maxSteps := 2000000) only [vm]
  (refine hK _ ?_; clear hK; clear K)
  refine c_assoc ?_
  refine c_reg fun K hK => ?_
  simp (maxSteps := 2000000) only [vm, q62, reduceIte, Nat.reduceEqDiff, reduceCtorEq]
  (refine hK _ ?_; clear hK; clear K)
  refine c_block ?_
  refine vcode_loop (fun i : Nat => [(1, L.p (V.fn g a c)), (5, L.arr 19 0), (8, L.p (V.sl (List.map d3 l))), (9, L.p (V.i IntKind.i64 ↑l.length)), (10, L.p (nn i))]) (fun i => [(Key.a 19, M.arr 0 107 4 ((each F l i).map p4))]) (fun i => i ≤ l.length) (fun i => l.length - i) 0 (Nat.zero_le _) ?_ ?_
  · (simp (maxSteps := 2000000) only [vm, vmk, reduceIte, Nat.reduceEqDiff, Nat.reduceLT, reduceCtorEq]; try simp (disch := omega) only [wr64]; try omega)
    first | trivial | exact ⟨.inr trivial, rfl⟩ | rfl
  · intro i hi
    have hel : (each F l i).length = i := each_len hi
    rcases Nat.lt_or_ge i l.length with hil | hil
    · have kl : decide ((i : Int) < (l.length : Int)) = true := decide_eq_true (by omega)
      refine c_reg fun K hK => ?_
      simp (maxSteps := 2000000) only [vm, vr, kl, reduceIte, Nat.reduceEqDiff]
      (refine hK _ ?_; clear hK; clear K)
      refine c_if _ rfl (fun hb1 => ?_) (fun hb1 => ?_) <;> (have hp1 := hb1; try simp only [] at hp1)
      refine c_skip ?_
      refine c_block ?_
      refine c_reg fun K hK => ?_
      simp (maxSteps := 2000000) only [vm, vr, q62, reduceIte, Nat.reduceEqDiff, Nat.reduceAdd, Nat.reduceLeDiff, reduceCtorEq]
      (refine atI_map default (by first | assumption | omega | (simp; done) | (simp; omega)) (by first | assumption | omega | (simp; done) | (simp; omega)) ?_; simp (maxSteps := 2000000) only [vm, vr, q62, reduceIte, Nat.reduceEqDiff, Nat.reduceAdd, reduceCtorEq])
      refine need_by (by first | assumption | omega | (simp; done) | (simp; omega)) ?_
      (refine hK _ ?_; clear hK; clear K)
      refine c_reg1 fun K hK => ?_
      simp (maxSteps := 2000000) only [vm, vr, q62, reduceIte, Nat.reduceEqDiff, Nat.reduceAdd, Nat.reduceLeDiff, reduceCtorEq]
      (apply s_call (hf _ ?s6301x1); (case hf => rfl); (case hq => (simp (maxSteps := 2000000) only [vm, reduceIte, Nat.reduceEqDiff]; rfl)); (case hvs => rfl); (case s6301x1 => first | assumption | omega | (simp; done) | (simp; omega)))
      simp (maxSteps := 2000000) only [vm, vr, vp, q62, reduceIte, Nat.reduceEqDiff, Nat.reduceAdd, Nat.reduceLeDiff, Nat.reduceMul, Nat.reduceLT, reduceCtorEq]
      refine need_by (by first | assumption | omega | (simp; done) | (simp; omega)) ?_
      refine need_by (by first | assumption | omega | (simp; done) | (simp; omega)) ?_
      (refine hK _ ?_; clear hK; clear K)
      simp only [thenV_n, blockV_n]
      refine c_reg1 fun K hK => ?_
      simp (maxSteps := 2000000) only [vm, vr, reduceIte, Nat.reduceEqDiff]
      (simp (disch := omega) only [wr64]; try simp (maxSteps := 2000000) only [vm, vr, vt, vp, q62, mapd3, conts_arr, mapp4, kl, hb1, Int.reduceBNe, Int.reduceBEq, Int.reduceLT, Int.reduceLE, Int.reduceGT, Int.reduceGE, decide_true, decide_false, bne_self_eq_false, beq_self_eq_true, reduceIte, Nat.reduceEqDiff, Nat.reduceAdd, Nat.reduceLeDiff, Nat.reduceMul, Nat.reduceLT, reduceCtorEq])
      (refine hK _ ?_; clear hK; clear K)
      simp only [thenV_n]
      rotate_left
      cases hb1
      all_goals first
        | omega
        | (simp; done)
        | (refine ⟨i + 1, ?_, by omega, by omega⟩; ((show Wk _ _ _; simp only [vm, vmk, reduceIte, Nat.reduceEqDiff, reduceCtorEq]; (try simp (disch := omega) only [wr64]); try omega)); (refine ⟨by omega, ?_⟩; rw [each_succ hil, List.map_append]; try rfl))
    · have kl : decide ((i : Int) < (l.length : Int)) = false := decide_eq_false_iff_not.2 (by omega)
      refine c_reg fun K hK => ?_
      simp (maxSteps := 2000000) only [vm, vr, kl, reduceIte, Nat.reduceEqDiff]
      (refine hK _ ?_; clear hK; clear K)
      refine c_if _ rfl (fun hb1 => ?_) (fun hb1 => ?_) <;> (have hp1 := hb1; try simp only [] at hp1)
      cases hb1
      refine c_exit ?_
      simp only [thenV_n, thenV_e, blockV_e, reduceIte]
      refine c_reg fun K hK => ?_
      simp (maxSteps := 2000000) only [vm, vr, reduceIte, Nat.reduceEqDiff]
      (refine hK _ ?_; clear hK; clear K)
      refine c_ret1 ?_
      simp (maxSteps := 2000000) only [vm, vr, reduceIte, Nat.reduceEqDiff]
      rw [each_all hil]
end Go.Vm
