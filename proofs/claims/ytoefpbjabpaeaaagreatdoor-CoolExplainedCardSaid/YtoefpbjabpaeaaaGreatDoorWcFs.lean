import Derived.Test.YtoefpbjabpaeaaaGreatDoorVmBC
import Derived.Test.YtoefpbjabpaeaaaGreatDoorWcFr
set_option linter.all false
namespace Go.Vm
open Go.Proofs
set_option maxRecDepth 20000
set_option maxHeartbeats 8000000
--DEF TAB = nn t.water; nn t.air; V.sl (t.banks.map bnkV)
--DEF STR = V.sl (x.ents.map p2); V.sl (x.tars.map p2)
--DEF MEA = V.sl (S.map nn); V.sl (X.map p2)
--DEF A = q53
/-! the reference: all sets of faults, those that explain -/
theorem all_lenR {n : Nat} : ∀ {d : Nat}, (allT n d).length + 1 = 3 ^ d
  | 0 => rfl
  | d + 1 => by
    have ih := all_lenR (n := n) (d := d)
    rw [allT_succ, List.length_append, List.length_append, List.length_map, List.length_map, Nat.pow_succ]
    unfold allL
    rw [List.length_cons]; omega
theorem allT_len {n : Nat} : ∀ {d : Nat} {G : Flt}, G ∈ allT n d → G.length ≤ d
  | 0, G, h => by cases h
  | d + 1, G, h => by
    have hL : ∀ g ∈ allL n d, g.length ≤ d := fun g hg => by
      rcases List.mem_cons.1 hg with rfl | hg
      · simp
      · exact allT_len hg
    rw [allT_succ, List.mem_append, List.mem_append] at h
    rcases h with h | h | h
    · obtain ⟨g, hg, rfl⟩ := List.mem_map.1 h; have := hL g hg; simp; omega
    · obtain ⟨g, hg, rfl⟩ := List.mem_map.1 h; have := hL g hg; simp; omega
    · have := allT_len h; omega
theorem allL_len {n d : Nat} {G : Flt} (h : G ∈ allL n d) : G.length ≤ d := by
  rcases List.mem_cons.1 h with rfl | h
  · simp
  · exact allT_len h
theorem fndR_hit {E : Nat → List Flt} {m k : Nat} (h : 0 < (E k).length) : fndF E (m + 1) k = E k := if_pos h
theorem fndR_go {E : Nat → List Flt} {m k : Nat} (h : (E k).length = 0) : fndF E (m + 1) k = fndF E m (k + 1) := if_neg (by omega)
def preO (n d j : Nat) : Nat → List Flt
  | 0 => preA n d j
  | 1 => preA n d j ++ (allL n (d - j - 1)).map (fun G => (((n - d + j : Nat) : Int), false) :: G)
  | _ + 2 => preA n d (j + 1)
theorem preO_two {n d j : Nat} : preA n d (j + 1) = preO n d j 1 ++ (allL n (d - j - 1)).map (fun G => (((n - d + j : Nat) : Int), true) :: G) := by rw [preO, preA, List.append_assoc]
theorem map_take {l : List Flt} {f : Flt → Flt} {k : Nat} (h : k < l.length) : (l.take (k + 1)).map f = (l.take k).map f ++ [f (l.getD k default)] := by rw [takeS default h, List.map_append]; rfl
theorem preA_le {n d j : Nat} (hn : n ≤ 4) (hd : d ≤ n) (hj : j ≤ d) : (preA n d j).length ≤ 81 := by
  have h1 := congrArg List.length (preA_rest hd hj)
  rw [List.length_append] at h1
  have h2 := all_lenR (n := n) (d := d)
  have h3 : 3 ^ d ≤ 3 ^ 4 := Nat.pow_le_pow_right (by omega) (by omega)
  unfold allL at h1
  rw [List.length_cons] at h1
  omega
theorem all_ok (t : CTab) (h4 : t.banks.length ≤ 4) : ∀ d, d ≤ t.banks.length → Sp0 53 [ctV t, nn ((t.banks.length - d : Nat) : Int)] (R.v (.sl ((allL t.banks.length d).map fsV))) := by
  intro d
  induction d using Nat.strongRecOn with
  | ind d ih =>
    intro hd
    refine spec_of mixed (fun _ _ _ h => h) Tryz.func53 (by decide +kernel) rfl (rs := _) rfl (by rfl) rfl (by simp [Tryz.f53]) (by decide +kernel) ?_; simp only [argsG, Nat.zero_add]
    refine c_reg fun K hK => ?_
    simp (maxSteps := 2000000) only [vm, vr, reduceIte, Nat.reduceAdd, reduceCtorEq]
    refine need_by (by first | assumption | omega | (simp; done) | (simp; omega)) ?_
    (refine hK _ ?_; clear hK; clear K)
    refine c_reg fun K hK => ?_
    simp (maxSteps := 2000000) only [vm, vr, q53, reduceIte, Nat.reduceEqDiff, Nat.reduceLeDiff, Nat.reduceMul, reduceCtorEq]
    refine need_by (by first | assumption | omega | (simp; done) | (simp; omega)) ?_
    (refine hK _ ?_; clear hK; clear K)
    refine c_assoc ?_
    refine c_reg fun K hK => ?_
    simp (maxSteps := 2000000) only [vm, vr, reduceIte, Nat.reduceEqDiff, reduceCtorEq]
    (refine hK _ ?_; clear hK; clear K)
    refine c_block ?_
    refine vcode_loop (fun j : Nat => [(2, L.own 2 0), (4, L.nilS), (5, L.arr 10 0), (6, L.p (nn ((t.banks.length - d + j : Nat) : Int)))]) (fun j => [(Key.a 10, M.arr 0 31 1 ((preA t.banks.length d j).map fsV)), (Key.b 2, M.box 3), (Key.c 2 0, M.cell (L.p (nn t.water))), (Key.c 2 1, M.cell (L.p (nn t.air))), (Key.c 2 2, M.cell (L.p (V.sl (t.banks.map bnkV))))]) (fun j => j ≤ d) (fun j => d - j) 0 (Nat.zero_le _) ?_ ?_
    · (simp (maxSteps := 2000000) only [vm, vmk, reduceIte, Nat.reduceEqDiff, Nat.reduceAdd, Nat.reduceLT, reduceCtorEq]; try simp (disch := omega) only [wr64]; try omega)
      all_goals (repeat' first | exact ⟨_, rfl⟩ | exact Or.inr trivial | omega | (simp [preA]; done) | rfl | apply And.intro)
    · intro j hj
      rcases Nat.lt_or_ge j d with hjd | hjd
      · have kl : decide (((t.banks.length - d + j : Nat) : Int) < (t.banks.length : Int)) = true := decide_eq_true (by omega)
        have wb : IntKind.wrap .i64 (((t.banks.length - d + j : Nat) : Int) + 1) = ((t.banks.length - (d - j - 1) : Nat) : Int) := by rw [wr64 (by omega) (by omega)]; omega
        have hs53 := ih (d - j - 1) (by omega) (by omega)
        have hle := preA_le h4 hd (j := j) hj
        have hle2 := preA_le h4 hd (j := j + 1) (by omega)
        rw [preO_two, List.length_append, preO, List.length_append, List.length_map, List.length_map] at hle2
        refine c_assoc ?_
        refine c_reg fun K hK => ?_
        simp (maxSteps := 2000000) only [vm, vr, q53, kl, reduceIte, Nat.reduceEqDiff, Nat.reduceAdd, Nat.reduceLeDiff, reduceCtorEq]
        (refine hK _ ?_; clear hK; clear K)
        refine c_if _ rfl (fun hb1 => ?_) (fun hb1 => ?_) <;> (have hp1 := hb1; try simp only [] at hp1)
        refine c_skip ?_
        refine c_block ?_
        refine c_reg fun K hK => ?_
        simp (maxSteps := 2000000) only [vm, vr, q53, wb, reduceIte, Nat.reduceEqDiff, Nat.reduceAdd, Nat.reduceLeDiff, reduceCtorEq]
        (apply s_call (hs53); (case hf => rfl); (case hq => (simp (maxSteps := 2000000) only [vm, reduceIte, Nat.reduceEqDiff]; rfl)); (case hvs => rfl))
        simp (maxSteps := 2000000) only [vm, vr, reduceIte, Nat.reduceEqDiff]
        (refine hK _ ?_; clear hK; clear K)
        refine c_reg fun K hK => ?_
        simp (maxSteps := 2000000) only [vm, vr]
        (refine hK _ ?_; clear hK; clear K)
        refine c_block1 ?_
        rotate_left
        cases hb1
        refine vcode_loop (fun o : Nat => [(2, L.own 2 0), (4, L.nilS), (5, L.arr 10 0), (6, L.p (nn ((t.banks.length - d + j : Nat) : Int))), (7, L.p (V.sl (List.map fsV (allL t.banks.length (d - j - 1))))), (8, L.p (nn o))]) (fun o => [(Key.a 10, M.arr 0 31 1 ((preO t.banks.length d j o).map fsV)), (Key.b 2, M.box 3), (Key.c 2 0, M.cell (L.p (nn t.water))), (Key.c 2 1, M.cell (L.p (nn t.air))), (Key.c 2 2, M.cell (L.p (V.sl (t.banks.map bnkV))))]) (fun o => o ≤ 2) (fun o => 2 - o) 0 (Nat.zero_le _) ?_ ?_
        · simp (maxSteps := 2000000) only [vm, preO, vmk, reduceIte, Nat.reduceEqDiff, Nat.reduceAdd, Nat.reduceLT, reduceCtorEq]
        · intro o ho
          match o, ho with
          | 0, _ =>
            have z0 : ((0 : Nat) : Int) = 0 := rfl
            refine c_assoc ?_
            refine c_reg fun K hK => ?_
            simp (maxSteps := 2000000) only [vm, vr, z0, preO, Int.reduceLT, decide_true, reduceIte, Nat.reduceEqDiff]
            (refine hK _ ?_; clear hK; clear K)
            refine c_if _ rfl (fun hb2 => ?_) (fun hb2 => ?_) <;> (have hp2 := hb2; try simp only [] at hp2)
            refine c_skip ?_
            refine c_block ?_
            refine c_reg fun K hK => ?_
            simp (maxSteps := 2000000) only [vm, vr]
            (refine hK _ ?_; clear hK; clear K)
            refine c_block1 ?_
            rotate_left
            cases hb2
            have hBl : ∀ G ∈ allL t.banks.length (d - j - 1), G.length ≤ d - j - 1 := fun G hG => allL_len hG
            generalize hB : allL t.banks.length (d - j - 1) = B at *
            refine vcode_loop (fun k : Nat => [(2, L.own 2 0), (4, L.nilS), (5, L.arr 10 0), (6, L.p (nn ((t.banks.length - d + j : Nat) : Int))), (7, L.p (V.sl (List.map fsV B))), (8, L.p (nn 0)), (9, L.p (nn k))]) (fun k => [(Key.a 10, M.arr 0 31 1 ((preA t.banks.length d j ++ (B.take k).map (fun G => (((t.banks.length - d + j : Nat) : Int), false) :: G)).map fsV)), (Key.b 2, M.box 3), (Key.c 2 0, M.cell (L.p (nn t.water))), (Key.c 2 1, M.cell (L.p (nn t.air))), (Key.c 2 2, M.cell (L.p (V.sl (t.banks.map bnkV))))]) (fun k => k ≤ B.length) (fun k => B.length - k) 0 (Nat.zero_le _) ?_ ?_
            · simp (maxSteps := 2000000) only [vm, vr, vmk, reduceIte, Nat.reduceEqDiff, Nat.reduceAdd, Nat.reduceLT, reduceCtorEq]
            · intro k hk
              rcases Nat.lt_or_ge k B.length with hkl | hkl
              · have kk : decide ((k : Int) < (B.length : Int)) = true := decide_eq_true (by omega)
                have hGl := hBl _ (getD_memC (l := B) (i := k) hkl)
                have htl : (B.take k).length = k := by rw [List.length_take]; omega
                refine c_assoc ?_
                refine c_reg fun K hK => ?_
                simp (maxSteps := 2000000) only [vm, vr, q53, kk, reduceIte, Nat.reduceEqDiff]
                (refine hK _ ?_; clear hK; clear K)
                refine c_if _ rfl (fun hb3 => ?_) (fun hb3 => ?_) <;> (have hp3 := hb3; try simp only [] at hp3)
                refine c_skip ?_
                refine c_block ?_
                refine c_reg1 fun K hK => ?_
                simp (maxSteps := 2000000) only [vm, vr, vp, q53, Int.reduceBEq, reduceIte, Nat.reduceEqDiff, Nat.reduceAdd, Nat.reduceLeDiff, Nat.reduceMul, Nat.reduceLT, reduceCtorEq]
                refine need_by (by first | assumption | omega | (simp; done) | (simp; omega)) ?_
                (refine atI_map default (by first | assumption | omega | (simp; done) | (simp; omega)) (by first | assumption | omega | (simp; done) | (simp; omega)) ?_; simp (maxSteps := 2000000) only [vm, vr, q53, mapf, reduceIte, Nat.reduceEqDiff, reduceCtorEq])
                refine need_by (by first | assumption | omega | (simp; done) | (simp; omega)) ?_
                refine need_by (by first | assumption | omega | (simp; done) | (simp; omega)) ?_
                refine need_by (by first | assumption | omega | (simp; done) | (simp; omega)) ?_
                (refine hK _ ?_; clear hK; clear K)
                simp only [thenV_n, blockV_n]
                refine c_reg1 fun K hK => ?_
                simp (maxSteps := 2000000) only [vm, vr, reduceIte, Nat.reduceEqDiff]
                (simp (disch := omega) only [wr64]; try simp (maxSteps := 2000000) only [vm, vr, vt, vp, q53, mapfs, mapf, kk, hb1, hb2, hb3, Int.reduceBNe, Int.reduceBEq, Int.reduceLT, Int.reduceLE, Int.reduceGT, Int.reduceGE, decide_true, decide_false, bne_self_eq_false, beq_self_eq_true, reduceIte, Nat.reduceEqDiff, Nat.reduceAdd, Nat.reduceLeDiff, Nat.reduceMul, Nat.reduceLT, reduceCtorEq])
                (refine hK _ ?_; clear hK; clear K)
                simp only [thenV_n]
                rotate_left
                cases hb3
                all_goals first
                  | omega
                  | (refine ⟨k + 1, ?_, by omega, by omega⟩
                     rw [map_take hkl, ← List.append_assoc, List.map_append]
                     ((show Wk _ _ _; simp only [vm, vp, vmk, reduceIte, Nat.reduceEqDiff, Nat.reduceAdd, Nat.reduceLT, reduceCtorEq]; (try simp (disch := omega) only [wr64]); try omega))
                     all_goals first | (simp; done) | exact ⟨fun _ => trivial, by simp; omega⟩ | exact ⟨by omega, by simp⟩ | (simp; omega) | trace_state)
              · have kk : decide ((k : Int) < (B.length : Int)) = false := decide_eq_false (by omega)
                rw [List.take_of_length_le hkl]
                refine c_assoc ?_
                refine c_reg fun K hK => ?_
                simp (maxSteps := 2000000) only [vm, vr, q53, kk, reduceIte, Nat.reduceEqDiff]
                (refine hK _ ?_; clear hK; clear K)
                refine c_if _ rfl (fun hb3 => ?_) (fun hb3 => ?_) <;> (have hp3 := hb3; try simp only [] at hp3)
                cases hb3
                refine c_exit ?_
                simp only [thenV_n, thenV_e, blockV_n, blockV_e, reduceIte, Nat.reduceEqDiff]
                refine c_reg1 fun K hK => ?_
                simp (maxSteps := 2000000) only [vm, vr, reduceIte, Nat.reduceEqDiff]
                (simp (disch := omega) only [wr64]; try simp (maxSteps := 2000000) only [vm, vr, vt, vp, q53, mapfs, mapf, kk, hb1, hb2, hb3, Int.reduceBNe, Int.reduceBEq, Int.reduceLT, Int.reduceLE, Int.reduceGT, Int.reduceGE, decide_true, decide_false, bne_self_eq_false, beq_self_eq_true, reduceIte, Nat.reduceEqDiff, Nat.reduceAdd, Nat.reduceLeDiff, Nat.reduceMul, Nat.reduceLT, reduceCtorEq])
                (refine hK _ ?_; clear hK; clear K)
                simp only [thenV_n]
                refine ⟨1, ?_, by omega, by omega⟩
                rw [preO, hB]
                ((show Wk _ _ _; simp only [vm, vmk, reduceIte, Nat.reduceEqDiff, Nat.reduceAdd, Nat.reduceLT, reduceCtorEq]; (try simp (disch := omega) only [wr64]); try omega))
          | 1, _ =>
            have z1 : ((1 : Nat) : Int) = 1 := rfl
            refine c_assoc ?_
            refine c_reg fun K hK => ?_
            simp (maxSteps := 2000000) only [vm, vr, z1, Int.reduceLT, decide_true, reduceIte, Nat.reduceEqDiff]
            (refine hK _ ?_; clear hK; clear K)
            refine c_if _ rfl (fun hb2 => ?_) (fun hb2 => ?_) <;> (have hp2 := hb2; try simp only [] at hp2)
            refine c_skip ?_
            refine c_block ?_
            refine c_reg fun K hK => ?_
            simp (maxSteps := 2000000) only [vm, vr]
            (refine hK _ ?_; clear hK; clear K)
            refine c_block1 ?_
            rotate_left
            cases hb2
            have hBl : ∀ G ∈ allL t.banks.length (d - j - 1), G.length ≤ d - j - 1 := fun G hG => allL_len hG
            have hle1 : (preO t.banks.length d j 1).length = (preA t.banks.length d j).length + (allL t.banks.length (d - j - 1)).length := by rw [preO, List.length_append, List.length_map]
            generalize hO : preO t.banks.length d j 1 = O at *
            generalize hB : allL t.banks.length (d - j - 1) = B at *
            refine vcode_loop (fun k : Nat => [(2, L.own 2 0), (4, L.nilS), (5, L.arr 10 0), (6, L.p (nn ((t.banks.length - d + j : Nat) : Int))), (7, L.p (V.sl (List.map fsV B))), (8, L.p (nn 1)), (9, L.p (nn k))]) (fun k => [(Key.a 10, M.arr 0 31 1 ((O ++ (B.take k).map (fun G => (((t.banks.length - d + j : Nat) : Int), true) :: G)).map fsV)), (Key.b 2, M.box 3), (Key.c 2 0, M.cell (L.p (nn t.water))), (Key.c 2 1, M.cell (L.p (nn t.air))), (Key.c 2 2, M.cell (L.p (V.sl (t.banks.map bnkV))))]) (fun k => k ≤ B.length) (fun k => B.length - k) 0 (Nat.zero_le _) ?_ ?_
            · simp (maxSteps := 2000000) only [vm, vr, vmk, reduceIte, Nat.reduceEqDiff, Nat.reduceAdd, Nat.reduceLT, reduceCtorEq]
            · intro k hk
              rcases Nat.lt_or_ge k B.length with hkl | hkl
              · have kk : decide ((k : Int) < (B.length : Int)) = true := decide_eq_true (by omega)
                have hGl := hBl _ (getD_memC (l := B) (i := k) hkl)
                have htl : (B.take k).length = k := by rw [List.length_take]; omega
                refine c_assoc ?_
                refine c_reg fun K hK => ?_
                simp (maxSteps := 2000000) only [vm, vr, q53, kk, reduceIte, Nat.reduceEqDiff]
                (refine hK _ ?_; clear hK; clear K)
                refine c_if _ rfl (fun hb3 => ?_) (fun hb3 => ?_) <;> (have hp3 := hb3; try simp only [] at hp3)
                refine c_skip ?_
                refine c_block ?_
                refine c_reg1 fun K hK => ?_
                simp (maxSteps := 2000000) only [vm, vr, vp, q53, beq_self_eq_true, reduceIte, Nat.reduceEqDiff, Nat.reduceAdd, Nat.reduceLeDiff, Nat.reduceMul, Nat.reduceLT, reduceCtorEq]
                refine need_by (by first | assumption | omega | (simp; done) | (simp; omega)) ?_
                (refine atI_map default (by first | assumption | omega | (simp; done) | (simp; omega)) (by first | assumption | omega | (simp; done) | (simp; omega)) ?_; simp (maxSteps := 2000000) only [vm, vr, q53, mapf, reduceIte, Nat.reduceEqDiff, reduceCtorEq])
                refine need_by (by first | assumption | omega | (simp; done) | (simp; omega)) ?_
                refine need_by (by first | assumption | omega | (simp; done) | (simp; omega)) ?_
                refine need_by (by first | assumption | omega | (simp; done) | (simp; omega)) ?_
                (refine hK _ ?_; clear hK; clear K)
                simp only [thenV_n, blockV_n]
                refine c_reg1 fun K hK => ?_
                simp (maxSteps := 2000000) only [vm, vr, reduceIte, Nat.reduceEqDiff]
                (simp (disch := omega) only [wr64]; try simp (maxSteps := 2000000) only [vm, vr, vt, vp, q53, mapfs, mapf, kk, hb1, hb2, hb3, Int.reduceBNe, Int.reduceBEq, Int.reduceLT, Int.reduceLE, Int.reduceGT, Int.reduceGE, decide_true, decide_false, bne_self_eq_false, beq_self_eq_true, reduceIte, Nat.reduceEqDiff, Nat.reduceAdd, Nat.reduceLeDiff, Nat.reduceMul, Nat.reduceLT, reduceCtorEq])
                (refine hK _ ?_; clear hK; clear K)
                simp only [thenV_n]
                rotate_left
                cases hb3
                all_goals first
                  | omega
                  | (refine ⟨k + 1, ?_, by omega, by omega⟩
                     rw [map_take hkl, ← List.append_assoc, List.map_append]
                     ((show Wk _ _ _; simp only [vm, vp, vmk, reduceIte, Nat.reduceEqDiff, Nat.reduceAdd, Nat.reduceLT, reduceCtorEq]; (try simp (disch := omega) only [wr64]); try omega))
                     all_goals first | (simp; done) | exact ⟨fun _ => trivial, by simp; omega⟩ | exact ⟨by omega, by simp⟩ | (simp; omega) | trace_state)
              · have kk : decide ((k : Int) < (B.length : Int)) = false := decide_eq_false (by omega)
                rw [List.take_of_length_le hkl]
                refine c_assoc ?_
                refine c_reg fun K hK => ?_
                simp (maxSteps := 2000000) only [vm, vr, q53, kk, reduceIte, Nat.reduceEqDiff]
                (refine hK _ ?_; clear hK; clear K)
                refine c_if _ rfl (fun hb3 => ?_) (fun hb3 => ?_) <;> (have hp3 := hb3; try simp only [] at hp3)
                cases hb3
                refine c_exit ?_
                simp only [thenV_n, thenV_e, blockV_n, blockV_e, reduceIte, Nat.reduceEqDiff]
                refine c_reg1 fun K hK => ?_
                simp (maxSteps := 2000000) only [vm, vr, reduceIte, Nat.reduceEqDiff]
                (simp (disch := omega) only [wr64]; try simp (maxSteps := 2000000) only [vm, vr, vt, vp, q53, mapfs, mapf, kk, hb1, hb2, hb3, Int.reduceBNe, Int.reduceBEq, Int.reduceLT, Int.reduceLE, Int.reduceGT, Int.reduceGE, decide_true, decide_false, bne_self_eq_false, beq_self_eq_true, reduceIte, Nat.reduceEqDiff, Nat.reduceAdd, Nat.reduceLeDiff, Nat.reduceMul, Nat.reduceLT, reduceCtorEq])
                (refine hK _ ?_; clear hK; clear K)
                simp only [thenV_n]
                refine ⟨2, ?_, by omega, by omega⟩
                rw [show preO t.banks.length d j 2 = preA t.banks.length d (j + 1) from rfl, preO_two, hO, hB]
                ((show Wk _ _ _; simp only [vm, vmk, reduceIte, Nat.reduceEqDiff, Nat.reduceAdd, Nat.reduceLT, reduceCtorEq]; (try simp (disch := omega) only [wr64]); try omega))
          | 2, _ =>
            have z2 : ((2 : Nat) : Int) = 2 := rfl
            refine c_assoc ?_
            refine c_reg fun K hK => ?_
            simp (maxSteps := 2000000) only [vm, vr, z2, preO, Int.reduceLT, decide_false, reduceIte, Nat.reduceEqDiff]
            (refine hK _ ?_; clear hK; clear K)
            refine c_if _ rfl (fun hb2 => ?_) (fun hb2 => ?_) <;> (have hp2 := hb2; try simp only [] at hp2)
            cases hb2
            refine c_exit ?_
            simp only [thenV_n, thenV_e, blockV_n, blockV_e, reduceIte, Nat.reduceEqDiff]
            refine c_reg1 fun K hK => ?_
            simp (maxSteps := 2000000) only [vm, vr, reduceIte, Nat.reduceEqDiff]
            (simp (disch := omega) only [wr64]; try simp (maxSteps := 2000000) only [vm, vr, vt, vp, q53, mapbnk, z2, preO, hb1, hb2, Int.reduceBNe, Int.reduceBEq, Int.reduceLT, Int.reduceLE, Int.reduceGT, Int.reduceGE, decide_true, decide_false, bne_self_eq_false, beq_self_eq_true, reduceIte, Nat.reduceEqDiff, Nat.reduceAdd, Nat.reduceLeDiff, Nat.reduceMul, Nat.reduceLT, reduceCtorEq])
            (refine hK _ ?_; clear hK; clear K)
            simp only [thenV_n]
            refine ⟨j + 1, ?_, by omega, by omega⟩
            ((show Wk _ _ _; simp only [vm, vmk, reduceIte, Nat.reduceEqDiff, Nat.reduceAdd, Nat.reduceLT, reduceCtorEq]; (try simp (disch := omega) only [wr64]); try omega))
      · have kl : decide (((t.banks.length - d + j : Nat) : Int) < (t.banks.length : Int)) = false := decide_eq_false (by omega)
        obtain rfl : j = d := by omega
        rw [preA_all hd]
        refine c_assoc ?_
        refine c_reg fun K hK => ?_
        simp (maxSteps := 2000000) only [vm, vr, q53, kl, reduceIte, Nat.reduceEqDiff, Nat.reduceAdd, Nat.reduceLeDiff, reduceCtorEq]
        (refine hK _ ?_; clear hK; clear K)
        refine c_if _ rfl (fun hb1 => ?_) (fun hb1 => ?_) <;> (have hp1 := hb1; try simp only [] at hp1)
        cases hb1
        refine c_exit ?_
        simp only [thenV_n, thenV_e, blockV_e, reduceIte]
        refine c_reg fun K hK => ?_
        simp (maxSteps := 2000000) only [vm, vr, reduceIte, Nat.reduceEqDiff]
        (refine hK _ ?_; clear hK; clear K)
        refine c_ret1 ?_
        simp (maxSteps := 2000000) only [vm, vr, reduceIte, Nat.reduceEqDiff, reduceCtorEq]
theorem spec22 (t : CTab) (x : CStrip) (S : List Int) (X : List (Int × Int)) (ht : TabOk t) (hx : StrOk x) (c1 : S.length = x.ents.length) (c2 : X.length = x.ents.length) (hS : ∀ i, i < S.length → ∃ s : Nat, S.getD i 0 = (s : Int) ∧ s < 2 ^ t.banks.length) : Sp0 22 [ctV t, csV x, meV S X] (R.v (.sl ((minF t x S X).map fsV))) := by
  have h4 := ht.len
  have hs53 := all_ok t h4.2 t.banks.length (Nat.le_refl _)
  rw [Nat.sub_self] at hs53
  have hs53 : Sp0 53 [ctV t, nn 0] (R.v (.sl ((allL t.banks.length t.banks.length).map fsV))) := hs53
  refine spec_of mixed (fun _ _ _ h => h) Tryz.func22 (by decide +kernel) rfl (rs := _) rfl (by rfl) rfl (by simp [Tryz.f22]) (by decide +kernel) ?_; simp only [argsG, Nat.zero_add, Nat.reduceAdd]
  refine c_reg fun K hK => ?_
  simp (maxSteps := 2000000) only [vm, vr, reduceIte, Nat.reduceEqDiff, Nat.reduceAdd, reduceCtorEq]
  refine need_by (by first | assumption | omega | (simp; done) | (simp; omega)) ?_
  refine need_by (by first | assumption | omega | (simp; done) | (simp; omega)) ?_
  refine need_by (by first | assumption | omega | (simp; done) | (simp; omega)) ?_
  (refine hK _ ?_; clear hK; clear K)
  refine c_reg fun K hK => ?_
  simp (maxSteps := 2000000) only [vm, vr, q22, reduceIte, Nat.reduceEqDiff, Nat.reduceAdd, Nat.reduceLeDiff, reduceCtorEq]
  (apply s_call (hs53); (case hf => rfl); (case hq => (simp (maxSteps := 2000000) only [vm, reduceIte, Nat.reduceEqDiff, reduceCtorEq]; rfl)); (case hvs => rfl))
  simp (maxSteps := 2000000) only [vm, vr, reduceIte, Nat.reduceEqDiff, reduceCtorEq]
  (refine hK _ ?_; clear hK; clear K)
  refine c_assoc ?_
  refine c_reg fun K hK => ?_
  simp (maxSteps := 2000000) only [vm, vr]
  (refine hK _ ?_; clear hK; clear K)
  refine c_block ?_
  have hAl : (allL t.banks.length t.banks.length).length ≤ 81 := by
    have h2 := all_lenR (n := t.banks.length) (d := t.banks.length)
    have h3 : 3 ^ t.banks.length ≤ 3 ^ 4 := Nat.pow_le_pow_right (by omega) h4.2
    unfold allL; rw [List.length_cons]; omega
  have hAi : ∀ G ∈ allL t.banks.length t.banks.length, inF t.banks.length G := fun G hG => allL_in (Nat.le_refl _) hG
  have hAn : ∀ G ∈ allL t.banks.length t.banks.length, G.length ≤ t.banks.length := fun G hG => allL_len hG
  have hE : ∀ k, sizL t x S X k = (allL t.banks.length t.banks.length).filter fun G => G.length == k && expB t x S X G := fun k => siz_all
  unfold minF
  generalize hB : allL t.banks.length t.banks.length = B at *
  refine vcode_loop (fun k : Nat => [(3, L.own 3 0), (4, L.own 4 0), (5, L.own 5 0), (6, L.nilS), (7, L.p (V.sl (List.map fsV B))), (8, L.p (nn k))]) (fun _ => [(Key.b 5, M.box 2), (Key.c 5 0, M.cell (L.p (V.sl (S.map nn)))), (Key.c 5 1, M.cell (L.p (V.sl (X.map p2)))), (Key.b 4, M.box 2), (Key.c 4 0, M.cell (L.p (V.sl (x.ents.map p2)))), (Key.c 4 1, M.cell (L.p (V.sl (x.tars.map p2)))), (Key.b 3, M.box 3), (Key.c 3 0, M.cell (L.p (nn t.water))), (Key.c 3 1, M.cell (L.p (nn t.air))), (Key.c 3 2, M.cell (L.p (V.sl (t.banks.map bnkV))))]) (fun k => k ≤ t.banks.length + 1 ∧ fndF (sizL t x S X) (t.banks.length + 1) 0 = fndF (sizL t x S X) (t.banks.length + 1 - k) k) (fun k => t.banks.length + 1 - k) 0 ⟨Nat.zero_le _, rfl⟩ ?_ ?_
  · simp (maxSteps := 2000000) only [vm, vmk, reduceIte, Nat.reduceEqDiff, Nat.reduceAdd, Nat.reduceLT, reduceCtorEq]
  · rintro k ⟨hk, hM⟩
    rcases Nat.lt_or_ge k (t.banks.length + 1) with hkl | hkl
    · have kk : decide ((k : Int) ≤ (t.banks.length : Int)) = true := decide_eq_true (by omega)
      obtain ⟨m, hm⟩ : ∃ m, t.banks.length + 1 - k = m + 1 := ⟨t.banks.length - k, by omega⟩
      rw [hm] at hM
      refine c_assoc ?_
      refine c_reg fun K hK => ?_
      simp (maxSteps := 2000000) only [vm, vr, q22, kk, reduceIte, Nat.reduceEqDiff, Nat.reduceAdd, Nat.reduceLeDiff, reduceCtorEq]
      (refine hK _ ?_; clear hK; clear K)
      refine c_if _ rfl (fun hb1 => ?_) (fun hb1 => ?_) <;> (have hp1 := hb1; try simp only [] at hp1)
      refine c_skip ?_
      refine c_block ?_
      refine c_reg fun K hK => ?_
      simp (maxSteps := 2000000) only [vm, vr]
      (refine hK _ ?_; clear hK; clear K)
      refine c_assoc ?_
      refine c_reg fun K hK => ?_
      simp (maxSteps := 2000000) only [vm, vr]
      (refine hK _ ?_; clear hK; clear K)
      refine c_block ?_
      rotate_left
      cases hb1
      have hEk : ∀ i, i ≤ B.length → ((B.take i).filter fun G => G.length == k && expB t x S X G).length ≤ 81 := fun i hi => by
        have h1 := List.length_filter_le (fun G : Flt => G.length == k && expB t x S X G) (B.take i)
        rw [List.length_take] at h1; omega
      refine vcode_loop (fun i : Nat => [(3, L.own 3 0), (4, L.own 4 0), (5, L.own 5 0), (6, L.nilS), (7, L.p (V.sl (List.map fsV B))), (8, L.p (nn k)), (9, L.arr 60 0), (10, L.p (nn i))]) (fun i => [(Key.a 60, M.arr 0 31 1 (((B.take i).filter fun G => G.length == k && expB t x S X G).map fsV)), (Key.b 5, M.box 2), (Key.c 5 0, M.cell (L.p (V.sl (S.map nn)))), (Key.c 5 1, M.cell (L.p (V.sl (X.map p2)))), (Key.b 4, M.box 2), (Key.c 4 0, M.cell (L.p (V.sl (x.ents.map p2)))), (Key.c 4 1, M.cell (L.p (V.sl (x.tars.map p2)))), (Key.b 3, M.box 3), (Key.c 3 0, M.cell (L.p (nn t.water))), (Key.c 3 1, M.cell (L.p (nn t.air))), (Key.c 3 2, M.cell (L.p (V.sl (t.banks.map bnkV))))]) (fun i => i ≤ B.length) (fun i => B.length - i) 0 (Nat.zero_le _) ?_ ?_
      · (simp (maxSteps := 2000000) only [vm, vr, vmk, reduceIte, Nat.reduceEqDiff, Nat.reduceAdd, Nat.reduceLT, reduceCtorEq]; try simp (disch := omega) only [wr64]; try omega)
        all_goals (repeat' first | exact ⟨_, rfl⟩ | exact Or.inr trivial | omega | (simp; done) | rfl | apply And.intro)
      · intro i hi
        have hb81 := hEk i hi
        rcases Nat.lt_or_ge i B.length with hil | hil
        · have ki : decide ((i : Int) < (B.length : Int)) = true := decide_eq_true (by omega)
          have hm := getD_memC (l := B) (i := i) hil
          have hGn := hAn _ hm
          have hs54 := spec54 t x S X (B.getD i default) ht hx c1 c2 (hAi _ hm) (by omega) hS
          have hsu := takeS (xs := B) default hil
          by_cases c : (B.getD i default).length = k
          · have k5 : (((B.getD i default).length : Int) == (k : Int)) = true := by rw [beq_iff_eq]; omega
            have k6 : ((B.getD i default).length == k) = true := by rw [beq_iff_eq]; exact c
            cases e : expB t x S X (B.getD i default) with
            | true =>
              rw [e] at hs54
              have hf : (B.take (i + 1)).filter (fun G => G.length == k && expB t x S X G) = (B.take i).filter (fun G => G.length == k && expB t x S X G) ++ [B.getD i default] := by rw [hsu, List.filter_append, List.filter_cons, k6, e]; rfl
              refine c_assoc ?_
              refine c_reg fun K hK => ?_
              simp (maxSteps := 2000000) only [vm, vr, q22, ki, reduceIte, Nat.reduceEqDiff]
              (refine hK _ ?_; clear hK; clear K)
              refine c_if _ rfl (fun hb82 => ?_) (fun hb82 => ?_) <;> (have hp82 := hb82; try simp only [] at hp82)
              refine c_skip ?_
              refine c_block ?_
              refine c_draw fun K hK => ?_
              refine d_one fun K hK => ?_
              simp (maxSteps := 2000000) only [vm, vw, reduceIte, Nat.reduceEqDiff]
              (refine hK _ ?_; clear hK; clear K)
              refine d_one fun K hK => ?_
              simp (maxSteps := 2000000) only [vm, vr, vw, reduceIte, Nat.reduceEqDiff]
              (refine hK _ ?_; clear hK; clear K)
              refine d_one fun K hK => ?_
              simp (maxSteps := 2000000) only [vm, vr, q22, vw, reduceIte, Nat.reduceEqDiff]
              (refine atI_map default (by first | assumption | omega | (simp; done) | (simp; omega)) (by first | assumption | omega | (simp; done) | (simp; omega)) ?_; simp (maxSteps := 2000000) only [vm, vr])
              (refine hK _ ?_; clear hK; clear K)
              refine d_one fun K hK => ?_
              simp (maxSteps := 2000000) only [vm, vr, q22, vw, reduceIte, Nat.reduceEqDiff]
              (refine hK _ ?_; clear hK; clear K)
              refine d_one fun K hK => ?_
              simp (maxSteps := 2000000) only [vm, vr, q22, vw, reduceIte, Nat.reduceEqDiff]
              (refine hK _ ?_; clear hK; clear K)
              refine d_one fun K hK => ?_
              simp (maxSteps := 2000000) only [vm, vr, vw, reduceIte, Nat.reduceEqDiff]
              (refine hK _ ?_; clear hK; clear K)
              refine d_one fun K hK => ?_
              simp (maxSteps := 2000000) only [vm, vr, k5, vw, reduceIte, Nat.reduceEqDiff]
              (refine hK _ ?_; clear hK; clear K)
              refine d_one fun K hK => ?_
              simp (maxSteps := 2000000) only [vm, vr, vw, reduceIte, Nat.reduceEqDiff]
              (refine hK _ ?_; clear hK; clear K)
              refine d_oneg fun K hK => ?_
              simp (maxSteps := 2000000) only [vm, vr, reduceIte, Nat.reduceEqDiff]
              simp (maxSteps := 2000000) only [vm, q22, vw, reduceIte, Nat.reduceEqDiff, Nat.reduceAdd, Nat.reduceLeDiff, reduceCtorEq]
              (refine hK _ ?_; clear hK; clear K)
              refine d_oneg fun K hK => ?_
              simp (maxSteps := 2000000) only [vm, vr, reduceIte, Nat.reduceEqDiff]
              simp (maxSteps := 2000000) only [vm, q22, vw, reduceIte, Nat.reduceEqDiff, Nat.reduceAdd, Nat.reduceLeDiff, reduceCtorEq]
              (refine hK _ ?_; clear hK; clear K)
              refine d_oneg fun K hK => ?_
              simp (maxSteps := 2000000) only [vm, vr, reduceIte, Nat.reduceEqDiff]
              simp (maxSteps := 2000000) only [vm, q22, vw, reduceIte, Nat.reduceEqDiff, Nat.reduceAdd, Nat.reduceLeDiff, reduceCtorEq]
              (refine hK _ ?_; clear hK; clear K)
              refine d_oneg fun K hK => ?_
              simp (maxSteps := 2000000) only [vm, vr, reduceIte, Nat.reduceEqDiff]
              simp (maxSteps := 2000000) only [vm, vw, reduceIte, Nat.reduceEqDiff]
              (refine hK _ ?_; clear hK; clear K)
              refine d_oneg fun K hK => ?_
              simp (maxSteps := 2000000) only [vm, vr, reduceIte, Nat.reduceEqDiff]
              simp (maxSteps := 2000000) only [vm, vw, reduceIte, Nat.reduceEqDiff]
              (refine hK _ ?_; clear hK; clear K)
              simp (maxSteps := 2000000) only [vm, vr, q22, reduceIte, Nat.reduceEqDiff]
              (refine atI_map default (by first | assumption | omega | (simp; done) | (simp; omega)) (by first | assumption | omega | (simp; done) | (simp; omega)) ?_; simp (maxSteps := 2000000) only [vm, vr, q22])
              (apply d_call (hs54); (case hf => rfl); (case hq => (simp (maxSteps := 2000000) only [vm, reduceIte, Nat.reduceEqDiff]; rfl)); (case hvs => rfl))
              simp (maxSteps := 2000000) only [vm, vr, reduceIte, Nat.reduceEqDiff]
              (refine draw_ok (by decide +kernel) (hK _ ?_); clear hK; clear K)
              refine vcode_if _ rfl (fun hb83 => ?_) (fun hb83 => ?_) <;> (have hp83 := hb83; try simp only [] at hp83)
              refine c_reg1 fun K hK => ?_
              simp (maxSteps := 2000000) only [vm, vr, vp, q22, reduceIte, Nat.reduceEqDiff, Nat.reduceAdd, Nat.reduceLeDiff, Nat.reduceMul, reduceCtorEq]
              (refine atI_map default (by first | assumption | omega | (simp; done) | (simp; omega)) (by first | assumption | omega | (simp; done) | (simp; omega)) ?_; simp (maxSteps := 2000000) only [vm, vr, q22, reduceIte, Nat.reduceEqDiff, reduceCtorEq])
              refine need_by (by first | assumption | omega | (simp; done) | (simp; omega)) ?_
              refine need_by (by first | assumption | omega | (simp; done) | (simp; omega)) ?_
              (refine hK _ ?_; clear hK; clear K)
              simp only [thenV_n, blockV_n]
              refine c_reg1 fun K hK => ?_
              simp (maxSteps := 2000000) only [vm, vr, reduceIte, Nat.reduceEqDiff]
              (simp (disch := omega) only [wr64]; try simp (maxSteps := 2000000) only [vm, vr, vt, vp, q22, mapbnk, mapp2, mapfs, mapf, ki, k5, hb1, hb81, hb82, hb83, Int.reduceBNe, Int.reduceBEq, Int.reduceLT, Int.reduceLE, Int.reduceGT, Int.reduceGE, decide_true, decide_false, bne_self_eq_false, beq_self_eq_true, reduceIte, Nat.reduceEqDiff, Nat.reduceAdd, Nat.reduceLeDiff, Nat.reduceMul, Nat.reduceLT, reduceCtorEq])
              (refine hK _ ?_; clear hK; clear K)
              simp only [thenV_n]
              rotate_left
              cases hb83
              cases hb82
              refine ⟨i + 1, ?_, by omega, by omega⟩
              rw [hf]
              ((show Wk _ _ _; simp only [vm, vmk, reduceIte, Nat.reduceEqDiff, Nat.reduceAdd, Nat.reduceLT, reduceCtorEq]; (try simp (disch := omega) only [wr64]); try omega))
              all_goals first | (simp; done) | exact ⟨fun _ => trivial, by omega⟩ | exact ⟨by omega, by simp⟩
            | false =>
              rw [e] at hs54
              have hf : (B.take (i + 1)).filter (fun G => G.length == k && expB t x S X G) = (B.take i).filter (fun G => G.length == k && expB t x S X G) := by rw [hsu, List.filter_append, List.filter_cons, k6, e]; simp
              refine c_assoc ?_
              refine c_reg fun K hK => ?_
              simp (maxSteps := 2000000) only [vm, vr, q22, ki, reduceIte, Nat.reduceEqDiff]
              (refine hK _ ?_; clear hK; clear K)
              refine c_if _ rfl (fun hb82 => ?_) (fun hb82 => ?_) <;> (have hp82 := hb82; try simp only [] at hp82)
              refine c_skip ?_
              refine c_block ?_
              refine c_draw fun K hK => ?_
              refine d_one fun K hK => ?_
              simp (maxSteps := 2000000) only [vm, vw, reduceIte, Nat.reduceEqDiff]
              (refine hK _ ?_; clear hK; clear K)
              refine d_one fun K hK => ?_
              simp (maxSteps := 2000000) only [vm, vr, vw, reduceIte, Nat.reduceEqDiff]
              (refine hK _ ?_; clear hK; clear K)
              refine d_one fun K hK => ?_
              simp (maxSteps := 2000000) only [vm, vr, q22, vw, reduceIte, Nat.reduceEqDiff]
              (refine atI_map default (by first | assumption | omega | (simp; done) | (simp; omega)) (by first | assumption | omega | (simp; done) | (simp; omega)) ?_; simp (maxSteps := 2000000) only [vm, vr])
              (refine hK _ ?_; clear hK; clear K)
              refine d_one fun K hK => ?_
              simp (maxSteps := 2000000) only [vm, vr, q22, vw, reduceIte, Nat.reduceEqDiff]
              (refine hK _ ?_; clear hK; clear K)
              refine d_one fun K hK => ?_
              simp (maxSteps := 2000000) only [vm, vr, q22, vw, reduceIte, Nat.reduceEqDiff]
              (refine hK _ ?_; clear hK; clear K)
              refine d_one fun K hK => ?_
              simp (maxSteps := 2000000) only [vm, vr, vw, reduceIte, Nat.reduceEqDiff]
              (refine hK _ ?_; clear hK; clear K)
              refine d_one fun K hK => ?_
              simp (maxSteps := 2000000) only [vm, vr, k5, vw, reduceIte, Nat.reduceEqDiff]
              (refine hK _ ?_; clear hK; clear K)
              refine d_one fun K hK => ?_
              simp (maxSteps := 2000000) only [vm, vr, vw, reduceIte, Nat.reduceEqDiff]
              (refine hK _ ?_; clear hK; clear K)
              refine d_oneg fun K hK => ?_
              simp (maxSteps := 2000000) only [vm, vr, reduceIte, Nat.reduceEqDiff]
              simp (maxSteps := 2000000) only [vm, q22, vw, reduceIte, Nat.reduceEqDiff, Nat.reduceAdd, Nat.reduceLeDiff, reduceCtorEq]
              (refine hK _ ?_; clear hK; clear K)
              refine d_oneg fun K hK => ?_
              simp (maxSteps := 2000000) only [vm, vr, reduceIte, Nat.reduceEqDiff]
              simp (maxSteps := 2000000) only [vm, q22, vw, reduceIte, Nat.reduceEqDiff, Nat.reduceAdd, Nat.reduceLeDiff, reduceCtorEq]
              (refine hK _ ?_; clear hK; clear K)
              refine d_oneg fun K hK => ?_
              simp (maxSteps := 2000000) only [vm, vr, reduceIte, Nat.reduceEqDiff]
              simp (maxSteps := 2000000) only [vm, q22, vw, reduceIte, Nat.reduceEqDiff, Nat.reduceAdd, Nat.reduceLeDiff, reduceCtorEq]
              (refine hK _ ?_; clear hK; clear K)
              refine d_oneg fun K hK => ?_
              simp (maxSteps := 2000000) only [vm, vr, reduceIte, Nat.reduceEqDiff]
              simp (maxSteps := 2000000) only [vm, vw, reduceIte, Nat.reduceEqDiff]
              (refine hK _ ?_; clear hK; clear K)
              refine d_oneg fun K hK => ?_
              simp (maxSteps := 2000000) only [vm, vr, reduceIte, Nat.reduceEqDiff]
              simp (maxSteps := 2000000) only [vm, vw, reduceIte, Nat.reduceEqDiff]
              (refine hK _ ?_; clear hK; clear K)
              simp (maxSteps := 2000000) only [vm, vr, q22, reduceIte, Nat.reduceEqDiff]
              (refine atI_map default (by first | assumption | omega | (simp; done) | (simp; omega)) (by first | assumption | omega | (simp; done) | (simp; omega)) ?_; simp (maxSteps := 2000000) only [vm, vr, q22])
              (apply d_call (hs54); (case hf => rfl); (case hq => (simp (maxSteps := 2000000) only [vm, reduceIte, Nat.reduceEqDiff]; rfl)); (case hvs => rfl))
              simp (maxSteps := 2000000) only [vm, vr, reduceIte, Nat.reduceEqDiff]
              (refine draw_ok (by decide +kernel) (hK _ ?_); clear hK; clear K)
              refine vcode_if _ rfl (fun hb83 => ?_) (fun hb83 => ?_) <;> (have hp83 := hb83; try simp only [] at hp83)
              cases hb83
              refine c_skip1 ?_
              simp only [thenV_n, blockV_n]
              refine c_reg1 fun K hK => ?_
              simp (maxSteps := 2000000) only [vm, vr, reduceIte, Nat.reduceEqDiff]
              (simp (disch := omega) only [wr64]; try simp (maxSteps := 2000000) only [vm, vr, vt, vp, q22, mapbnk, mapp2, mapfs, mapf, ki, k5, hb1, hb81, hb82, hb83, Int.reduceBNe, Int.reduceBEq, Int.reduceLT, Int.reduceLE, Int.reduceGT, Int.reduceGE, decide_true, decide_false, bne_self_eq_false, beq_self_eq_true, reduceIte, Nat.reduceEqDiff, Nat.reduceAdd, Nat.reduceLeDiff, Nat.reduceMul, Nat.reduceLT, reduceCtorEq])
              (refine hK _ ?_; clear hK; clear K)
              simp only [thenV_n]
              rotate_left
              cases hb82
              refine ⟨i + 1, ?_, by omega, by omega⟩
              rw [hf]
              ((show Wk _ _ _; simp only [vm, vmk, reduceIte, Nat.reduceEqDiff, Nat.reduceAdd, Nat.reduceLT, reduceCtorEq]; (try simp (disch := omega) only [wr64]); try omega))
              all_goals first | (simp; done) | exact ⟨fun _ => trivial, by omega⟩ | exact ⟨by omega, by simp⟩
          · have k5 : (((B.getD i default).length : Int) == (k : Int)) = false := by rw [beq_eq_false_iff_ne]; omega
            have k6 : ((B.getD i default).length == k) = false := by rw [beq_eq_false_iff_ne]; exact c
            have hf : (B.take (i + 1)).filter (fun G => G.length == k && expB t x S X G) = (B.take i).filter (fun G => G.length == k && expB t x S X G) := by rw [hsu, List.filter_append, List.filter_cons, k6]; simp
            refine c_assoc ?_
            refine c_reg fun K hK => ?_
            simp (maxSteps := 2000000) only [vm, vr, q22, ki, reduceIte, Nat.reduceEqDiff]
            (refine hK _ ?_; clear hK; clear K)
            refine c_if _ rfl (fun hb82 => ?_) (fun hb82 => ?_) <;> (have hp82 := hb82; try simp only [] at hp82)
            refine c_skip ?_
            refine c_block ?_
            refine c_draw fun K hK => ?_
            refine d_one fun K hK => ?_
            simp (maxSteps := 2000000) only [vm, vw, reduceIte, Nat.reduceEqDiff]
            (refine hK _ ?_; clear hK; clear K)
            refine d_one fun K hK => ?_
            simp (maxSteps := 2000000) only [vm, vr, vw, reduceIte, Nat.reduceEqDiff]
            (refine hK _ ?_; clear hK; clear K)
            refine d_one fun K hK => ?_
            simp (maxSteps := 2000000) only [vm, vr, q22, vw, reduceIte, Nat.reduceEqDiff]
            (refine atI_map default (by first | assumption | omega | (simp; done) | (simp; omega)) (by first | assumption | omega | (simp; done) | (simp; omega)) ?_; simp (maxSteps := 2000000) only [vm, vr])
            (refine hK _ ?_; clear hK; clear K)
            refine d_one fun K hK => ?_
            simp (maxSteps := 2000000) only [vm, vr, q22, vw, reduceIte, Nat.reduceEqDiff]
            (refine hK _ ?_; clear hK; clear K)
            refine d_one fun K hK => ?_
            simp (maxSteps := 2000000) only [vm, vr, q22, vw, reduceIte, Nat.reduceEqDiff]
            (refine hK _ ?_; clear hK; clear K)
            refine d_one fun K hK => ?_
            simp (maxSteps := 2000000) only [vm, vr, vw, reduceIte, Nat.reduceEqDiff]
            (refine hK _ ?_; clear hK; clear K)
            refine d_one fun K hK => ?_
            simp (maxSteps := 2000000) only [vm, vr, k5, vw, reduceIte, Nat.reduceEqDiff]
            (refine hK _ ?_; clear hK; clear K)
            refine d_one fun K hK => ?_
            simp (maxSteps := 2000000) only [vm, vr, vw, reduceIte, Nat.reduceEqDiff]
            (refine hK _ ?_; clear hK; clear K)
            refine d_oneg fun K hK => ?_
            simp (maxSteps := 2000000) only [vm, vr, reduceIte, Nat.reduceEqDiff]
            (refine hK _ ?_; clear hK; clear K)
            refine d_oneg fun K hK => ?_
            simp (maxSteps := 2000000) only [vm, vr, reduceIte, Nat.reduceEqDiff]
            (refine hK _ ?_; clear hK; clear K)
            refine d_oneg fun K hK => ?_
            simp (maxSteps := 2000000) only [vm, vr, reduceIte, Nat.reduceEqDiff]
            (refine hK _ ?_; clear hK; clear K)
            refine d_oneg fun K hK => ?_
            simp (maxSteps := 2000000) only [vm, vr, reduceIte, Nat.reduceEqDiff]
            (refine hK _ ?_; clear hK; clear K)
            refine d_oneg fun K hK => ?_
            simp (maxSteps := 2000000) only [vm, vr, reduceIte, Nat.reduceEqDiff]
            (refine hK _ ?_; clear hK; clear K)
            simp (maxSteps := 2000000) only [vm, vr, reduceIte, Nat.reduceEqDiff]
            (refine draw_ok (by decide +kernel) (hK _ ?_); clear hK; clear K)
            refine vcode_if _ rfl (fun hb83 => ?_) (fun hb83 => ?_) <;> (have hp83 := hb83; try simp only [] at hp83)
            cases hb83
            refine c_skip1 ?_
            simp only [thenV_n, blockV_n]
            refine c_reg1 fun K hK => ?_
            simp (maxSteps := 2000000) only [vm, vr, reduceIte, Nat.reduceEqDiff]
            (simp (disch := omega) only [wr64]; try simp (maxSteps := 2000000) only [vm, vr, vt, vp, q22, mapbnk, mapp2, mapfs, mapf, ki, k5, hb1, hb81, hb82, hb83, Int.reduceBNe, Int.reduceBEq, Int.reduceLT, Int.reduceLE, Int.reduceGT, Int.reduceGE, decide_true, decide_false, bne_self_eq_false, beq_self_eq_true, reduceIte, Nat.reduceEqDiff, Nat.reduceAdd, Nat.reduceLeDiff, Nat.reduceMul, Nat.reduceLT, reduceCtorEq])
            (refine hK _ ?_; clear hK; clear K)
            simp only [thenV_n]
            rotate_left
            cases hb82
            refine ⟨i + 1, ?_, by omega, by omega⟩
            rw [hf]
            ((show Wk _ _ _; simp only [vm, vmk, reduceIte, Nat.reduceEqDiff, Nat.reduceAdd, Nat.reduceLT, reduceCtorEq]; (try simp (disch := omega) only [wr64]); try omega))
            all_goals first | (simp; done) | exact ⟨fun _ => trivial, by omega⟩ | exact ⟨by omega, by simp⟩
        · have ki : decide ((i : Int) < (B.length : Int)) = false := decide_eq_false (by omega)
          rw [List.take_of_length_le hil, ← hE k]
          by_cases c : (sizL t x S X k).length = 0
          · have k3 : decide (((sizL t x S X k).length : Int) > 0) = false := decide_eq_false (by omega)
            refine c_assoc ?_
            refine c_reg fun K hK => ?_
            simp (maxSteps := 2000000) only [vm, vr, q22, ki, reduceIte, Nat.reduceEqDiff]
            (refine hK _ ?_; clear hK; clear K)
            refine c_if _ rfl (fun hb82 => ?_) (fun hb82 => ?_) <;> (have hp82 := hb82; try simp only [] at hp82)
            cases hb82
            refine c_exit ?_
            simp only [thenV_n, thenV_e, blockV_e, reduceIte, Nat.reduceEqDiff]
            refine c_reg fun K hK => ?_
            simp (maxSteps := 2000000) only [vm, vr, q22, k3, reduceIte, Nat.reduceEqDiff, reduceCtorEq]
            (refine hK _ ?_; clear hK; clear K)
            refine vcode_if _ rfl (fun hb83 => ?_) (fun hb83 => ?_) <;> (have hp83 := hb83; try simp only [] at hp83)
            cases hb83
            refine c_skip1 ?_
            simp only [thenV_n, blockV_n]
            refine c_reg1 fun K hK => ?_
            simp (maxSteps := 2000000) only [vm, vr, reduceIte, Nat.reduceEqDiff]
            (simp (disch := omega) only [wr64]; try simp (maxSteps := 2000000) only [vm, vr, vt, vp, q22, mapbnk, mapp2, mapfs, ki, k3, hb1, hb81, hb82, hb83, Int.reduceBNe, Int.reduceBEq, Int.reduceLT, Int.reduceLE, Int.reduceGT, Int.reduceGE, decide_true, decide_false, bne_self_eq_false, beq_self_eq_true, reduceIte, Nat.reduceEqDiff, Nat.reduceAdd, Nat.reduceLeDiff, Nat.reduceMul, Nat.reduceLT, reduceCtorEq])
            (refine hK _ ?_; clear hK; clear K)
            simp only [thenV_n]
            refine ⟨k + 1, ?_, ⟨by omega, by rw [hM, fndR_go c, show t.banks.length + 1 - (k + 1) = m by omega]⟩, by omega⟩
            ((show Wk _ _ _; simp only [vm, vmk, reduceIte, Nat.reduceEqDiff, Nat.reduceAdd, Nat.reduceLT, reduceCtorEq]; (try simp (disch := omega) only [wr64]); try omega))
          · have k3 : decide (((sizL t x S X k).length : Int) > 0) = true := decide_eq_true (by omega)
            rw [hM, fndR_hit (by omega)]
            refine c_assoc ?_
            refine c_reg fun K hK => ?_
            simp (maxSteps := 2000000) only [vm, vr, q22, ki, reduceIte, Nat.reduceEqDiff]
            (refine hK _ ?_; clear hK; clear K)
            refine c_if _ rfl (fun hb82 => ?_) (fun hb82 => ?_) <;> (have hp82 := hb82; try simp only [] at hp82)
            cases hb82
            refine c_exit ?_
            simp only [thenV_n, thenV_e, blockV_e, reduceIte, Nat.reduceEqDiff]
            refine c_reg fun K hK => ?_
            simp (maxSteps := 2000000) only [vm, vr, q22, k3, reduceIte, Nat.reduceEqDiff, reduceCtorEq]
            (refine hK _ ?_; clear hK; clear K)
            refine vcode_if _ rfl (fun hb83 => ?_) (fun hb83 => ?_) <;> (have hp83 := hb83; try simp only [] at hp83)
            refine c_reg fun K hK => ?_
            simp (maxSteps := 2000000) only [vm, vr, reduceIte, Nat.reduceEqDiff]
            (refine hK _ ?_; clear hK; clear K)
            refine c_ret1 ?_
            simp only [thenV_r, blockV_r]
            simp (maxSteps := 2000000) only [vm, vr, reduceIte, Nat.reduceEqDiff, reduceCtorEq]
            cases hb83
    · have kk : decide ((k : Int) ≤ (t.banks.length : Int)) = false := decide_eq_false (by omega)
      rw [show t.banks.length + 1 - k = 0 by omega] at hM
      have hM : fndF (sizL t x S X) (t.banks.length + 1) 0 = [] := hM
      rw [hM]
      refine c_assoc ?_
      refine c_reg fun K hK => ?_
      simp (maxSteps := 2000000) only [vm, vr, q22, kk, reduceIte, Nat.reduceEqDiff, Nat.reduceAdd, Nat.reduceLeDiff, reduceCtorEq]
      (refine hK _ ?_; clear hK; clear K)
      refine c_if _ rfl (fun hb1 => ?_) (fun hb1 => ?_) <;> (have hp1 := hb1; try simp only [] at hp1)
      cases hb1
      refine c_exit ?_
      simp only [thenV_n, thenV_e, blockV_e, reduceIte]
      refine c_reg fun K hK => ?_
      simp (maxSteps := 2000000) only [vm, vr]
      (refine hK _ ?_; clear hK; clear K)
      refine c_ret1 ?_
      simp (maxSteps := 2000000) only [vm, vr, reduceIte, Nat.reduceEqDiff]
theorem spec23 (M : List Flt) (hl : M.length < 1000000) (hr : ∀ F ∈ M, F.length < 1000000) : Sp0 23 [.sl (M.map fsV), .sl (M.map fsV)] (R.v (.b true)) := by
  refine spec_of mixed (fun _ _ _ h => h) Tryz.func23 (by decide +kernel) rfl (rs := _) rfl (by rfl) rfl (by simp [Tryz.f23]) (by decide +kernel) ?_; simp only [argsG, Nat.zero_add]
  refine c_reg fun K hK => ?_
  simp (maxSteps := 2000000) only [vm]
  (refine hK _ ?_; clear hK; clear K)
  refine c_assoc ?_
  refine c_reg fun K hK => ?_
  simp (maxSteps := 2000000) only [vm, q23, bne_self_eq_false, reduceIte, Nat.reduceEqDiff, reduceCtorEq]
  (refine hK _ ?_; clear hK; clear K)
  refine c_if _ rfl (fun hb1 => ?_) (fun hb1 => ?_) <;> (have hp1 := hb1; try simp only [] at hp1)
  cases hb1
  refine c_skip ?_
  refine c_assoc ?_
  refine c_reg fun K hK => ?_
  simp (maxSteps := 2000000) only [vm]
  (refine hK _ ?_; clear hK; clear K)
  refine c_block ?_
  refine vcode_loop (fun i : Nat => [(0, L.p (V.sl (List.map fsV M))), (1, L.p (V.sl (List.map fsV M))), (4, L.p (V.b false)), (5, L.p (nn i))]) (fun _ => []) (fun i => i ≤ M.length) (fun i => M.length - i) 0 (Nat.zero_le _) ?_ ?_
  · simp (maxSteps := 2000000) only [vm, vmk, reduceIte, Nat.reduceEqDiff, reduceCtorEq]
  · intro i hi
    rcases Nat.lt_or_ge i M.length with hil | hil
    · have kl : decide ((i : Int) < (M.length : Int)) = true := decide_eq_true (by omega)
      have hFl := hr _ (getD_memC (l := M) (i := i) hil)
      have kb : (((M.getD i default).length : Int) != ((M.getD i default).length : Int)) = false := bne_self_eq_false _
      refine c_assoc ?_
      refine c_reg fun K hK => ?_
      simp (maxSteps := 2000000) only [vm, q23, kl, reduceIte, Nat.reduceEqDiff, reduceCtorEq]
      (refine hK _ ?_; clear hK; clear K)
      refine c_if _ rfl (fun hb2 => ?_) (fun hb2 => ?_) <;> (have hp2 := hb2; try simp only [] at hp2)
      refine c_skip ?_
      refine c_block ?_
      refine c_assoc ?_
      refine c_draw fun K hK => ?_
      simp (maxSteps := 2000000) only [vm, vr, q23, reduceIte, Nat.reduceEqDiff, reduceCtorEq]
      (refine atI_map default (by first | assumption | omega | (simp; done) | (simp; omega)) (by first | assumption | omega | (simp; done) | (simp; omega)) ?_; simp (maxSteps := 2000000) only [vm, vr, q23])
      (refine atI_map default (by first | assumption | omega | (simp; done) | (simp; omega)) (by first | assumption | omega | (simp; done) | (simp; omega)) ?_; simp (maxSteps := 2000000) only [vm, vr, q23, kb])
      (refine draw_ok (by decide +kernel) (hK _ ?_); clear hK; clear K)
      refine c_if _ rfl (fun hb3 => ?_) (fun hb3 => ?_) <;> (have hp3 := hb3; try simp only [] at hp3)
      cases hb3
      refine c_skip ?_
      refine c_reg fun K hK => ?_
      simp (maxSteps := 2000000) only [vm]
      (refine hK _ ?_; clear hK; clear K)
      refine c_block1 ?_
      rotate_left
      cases hb2
      refine vcode_loop (fun k : Nat => [(0, L.p (V.sl (List.map fsV M))), (1, L.p (V.sl (List.map fsV M))), (4, L.p (V.b false)), (5, L.p (nn i)), (6, L.p (nn k))]) (fun _ => []) (fun k => k ≤ (M.getD i default).length) (fun k => (M.getD i default).length - k) 0 (Nat.zero_le _) ?_ ?_
      · simp (maxSteps := 2000000) only [vm, vmk, reduceIte, Nat.reduceEqDiff, reduceCtorEq]
      · intro k hk
        rcases Nat.lt_or_ge k (M.getD i default).length with hkl | hkl
        · have kk : decide ((k : Int) < ((M.getD i default).length : Int)) = true := decide_eq_true (by omega)
          refine c_assoc ?_
          refine c_reg fun K hK => ?_
          simp (maxSteps := 2000000) only [vm, q23, reduceIte, Nat.reduceEqDiff, reduceCtorEq]
          (refine atI_map default (by first | assumption | omega | (simp; done) | (simp; omega)) (by first | assumption | omega | (simp; done) | (simp; omega)) ?_; simp (maxSteps := 2000000) only [vm, vr, q23, kk])
          (refine hK _ ?_; clear hK; clear K)
          refine c_if _ rfl (fun hb4 => ?_) (fun hb4 => ?_) <;> (have hp4 := hb4; try simp only [] at hp4)
          refine c_skip ?_
          refine c_block ?_
          refine c_draw fun K hK => ?_
          simp (maxSteps := 2000000) only [vm, vr, q23, reduceIte, Nat.reduceEqDiff, reduceCtorEq]
          (refine atI_map default (by first | assumption | omega | (simp; done) | (simp; omega)) (by first | assumption | omega | (simp; done) | (simp; omega)) ?_; simp (maxSteps := 2000000) only [vm, vr, q23])
          (refine atI_map default (by first | assumption | omega | (simp; done) | (simp; omega)) (by first | assumption | omega | (simp; done) | (simp; omega)) ?_; simp (maxSteps := 2000000) only [vm, vr, q23, Nat.reduceAdd])
          (refine atI_map default (by first | assumption | omega | (simp; done) | (simp; omega)) (by first | assumption | omega | (simp; done) | (simp; omega)) ?_; simp (maxSteps := 2000000) only [vm, vr, q23])
          (refine atI_map default (by first | assumption | omega | (simp; done) | (simp; omega)) (by first | assumption | omega | (simp; done) | (simp; omega)) ?_; simp (maxSteps := 2000000) only [vm, vr, q23, beq_self_eq_true, Nat.reduceAdd])
          (refine draw_ok (by decide +kernel) (hK _ ?_); clear hK; clear K)
          refine vcode_if _ rfl (fun hb5 => ?_) (fun hb5 => ?_) <;> (have hp5 := hb5; try simp only [] at hp5)
          cases hb5
          refine c_skip1 ?_
          simp only [thenV_n, blockV_n]
          refine c_reg1 fun K hK => ?_
          simp (maxSteps := 2000000) only [vm, reduceIte, Nat.reduceEqDiff, reduceCtorEq]
          (simp (disch := omega) only [wr64]; try simp (maxSteps := 2000000) only [vm, vr, vt, vp, q23, mapfs, mapf, kk, hb1, hb2, hb3, hb4, hb5, Int.reduceBNe, Int.reduceBEq, Int.reduceLT, Int.reduceLE, Int.reduceGT, Int.reduceGE, decide_true, decide_false, bne_self_eq_false, beq_self_eq_true, reduceIte, Nat.reduceEqDiff, Nat.reduceAdd, Nat.reduceLeDiff, Nat.reduceMul, Nat.reduceLT, reduceCtorEq])
          (refine hK _ ?_; clear hK; clear K)
          simp only [thenV_n]
          rotate_left
          cases hb4
          refine ⟨k + 1, ?_, by omega, by omega⟩
          ((show Wk _ _ _; simp only [vm, vmk, reduceIte, Nat.reduceEqDiff, reduceCtorEq]; (try simp (disch := omega) only [wr64]); try omega))
        · have kk : decide ((k : Int) < ((M.getD i default).length : Int)) = false := decide_eq_false (by omega)
          refine c_assoc ?_
          refine c_reg fun K hK => ?_
          simp (maxSteps := 2000000) only [vm, q23, reduceIte, Nat.reduceEqDiff, reduceCtorEq]
          (refine atI_map default (by first | assumption | omega | (simp; done) | (simp; omega)) (by first | assumption | omega | (simp; done) | (simp; omega)) ?_; simp (maxSteps := 2000000) only [vm, vr, q23, kk])
          (refine hK _ ?_; clear hK; clear K)
          refine c_if _ rfl (fun hb4 => ?_) (fun hb4 => ?_) <;> (have hp4 := hb4; try simp only [] at hp4)
          cases hb4
          refine c_exit ?_
          simp only [thenV_n, thenV_e, blockV_n, blockV_e, reduceIte, Nat.reduceEqDiff]
          refine c_reg1 fun K hK => ?_
          simp (maxSteps := 2000000) only [vm, reduceIte, Nat.reduceEqDiff, reduceCtorEq]
          (simp (disch := omega) only [wr64]; try simp (maxSteps := 2000000) only [vm, vr, vt, vp, q23, mapfs, mapf, kk, hb1, hb2, hb3, hb4, Int.reduceBNe, Int.reduceBEq, Int.reduceLT, Int.reduceLE, Int.reduceGT, Int.reduceGE, decide_true, decide_false, bne_self_eq_false, beq_self_eq_true, reduceIte, Nat.reduceEqDiff, Nat.reduceAdd, Nat.reduceLeDiff, Nat.reduceMul, Nat.reduceLT, reduceCtorEq])
          (refine hK _ ?_; clear hK; clear K)
          simp only [thenV_n]
          refine ⟨i + 1, ?_, by omega, by omega⟩
          ((show Wk _ _ _; simp only [vm, vmk, reduceIte, Nat.reduceEqDiff, reduceCtorEq]; (try simp (disch := omega) only [wr64]); try omega))
    · have kl : decide ((i : Int) < (M.length : Int)) = false := decide_eq_false (by omega)
      refine c_assoc ?_
      refine c_reg fun K hK => ?_
      simp (maxSteps := 2000000) only [vm, q23, kl, reduceIte, Nat.reduceEqDiff, reduceCtorEq]
      (refine hK _ ?_; clear hK; clear K)
      refine c_if _ rfl (fun hb2 => ?_) (fun hb2 => ?_) <;> (have hp2 := hb2; try simp only [] at hp2)
      cases hb2
      refine c_exit ?_
      simp only [thenV_n, thenV_e, blockV_e, reduceIte]
      refine c_reg fun K hK => ?_
      simp (maxSteps := 2000000) only [vm]
      (refine hK _ ?_; clear hK; clear K)
      refine c_ret1 ?_
      simp (maxSteps := 2000000) only [vm, vr, reduceIte, Nat.reduceEqDiff, reduceCtorEq]
end Go.Vm
