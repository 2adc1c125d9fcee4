import Derived.Test.YteegjkaoihcebaaGreatDoorVmBC
import Derived.Test.YteegjkaoihcebaaGreatDoorWpSz
set_option linter.all false
namespace Go.Vm
open Go.Proofs
open Nat renaming reduceEqDiff → rE, reduceAdd → rA, reduceLeDiff → rL, reduceLT → rT, reduceMul → rM
set_option maxRecDepth 20000
set_option maxHeartbeats 8000000
theorem spec79 (k : Int) (b a : Int) (h1 : 1 ≤ b ∧ b ≤ 1000) (h2 : 1 ≤ a ∧ a ≤ 1000) : Sp0 79 [.agg [nn k, nn b, nn a]] (R.v (nn (b - a))) := by
 refine sP mixed Tryz.func79 ?_; simp only [argsG]
 refine cR fun K z => ?_
 simp only [vx, reduceIte, rA]
 refine nb ?_
 apply z
 refine cR fun K z => ?_
 simp only [vx, q79, reduceIte, rE, rA, rL, reduceCtorEq]
 (simp (disch := omega) only [wr64]; try simp only [vx, vt, vp, q79, Int.reduceBNe, Int.reduceBEq, Int.reduceLT, Int.reduceLE, Int.reduceGT, Int.reduceGE, decide_true, decide_false, bne_self_eq_false, beq_self_eq_true, reduceIte, rE, rA, rL, rM, rT, reduceCtorEq])
 apply z
 refine c_ret1 ?_
 simp only [vx, reduceIte, rE, reduceCtorEq]
theorem spec101 (r : PRules) (ls : List (Int × Int)) (k b a st fr : Int) (hr : RulOk r) (h1 : 1 ≤ b ∧ b ≤ 1000) (h2 : 1 ≤ a ∧ a ≤ 1000) (hle : a ≤ b) (hs : 0 ≤ st ∧ st ≤ 100) (hf : 0 ≤ fr ∧ fr ≤ 100) : Sp0 101 [milV r ls, .agg [nn k, nn b, nn a], nn st, nn fr] (R.v (nn (fcV r.width b a st fr))) := by
 have hw := hr.width
 obtain ⟨p1, p2, p3, p4⟩ := fc_bound (w := r.width) (by omega) h1 h2 hle hs hf
 refine sP mixed Tryz.func101 ?_; simp only [argsG, Nat.zero_add, rA]
 refine cR fun K z => ?_
 simp only [vx, reduceIte, rE, rA, reduceCtorEq]
 refine nb ?_
 refine nb ?_
 apply z
 refine cA ?_
 refine cR fun K z => ?_
 simp only [vx, q101, reduceIte, rE, rA, rL, reduceCtorEq]
 (refine sC (spec79 _ _ _ ?ya ?yb) ?_; (case ya | yb => first | assumption | omega | (simp <;> omega)))
 simp only [vx, reduceIte, rE, reduceCtorEq]
 apply z
 refine cI _ rfl (fun hb1 => ?_) (fun hb1 => ?_) <;> (have hp1 := hb1; try simp only [beq_iff_eq, beq_eq_false_iff_ne] at hp1)
 refine cA ?_
 refine cR fun K z => ?_
 simp only [vx, hb1]
 apply z
 refine c_ret ?_
 simp only [vx, reduceIte, rE, reduceCtorEq]
 rotate_left
 refine cS ?_
 refine c_draw fun K z => ?_
 simp only [vx, q101, hb1, reduceIte, rE, rA, rL, reduceCtorEq]
 (refine dC (spec79 _ _ _ ?yc ?yd) ?_; (case yc | yd => first | assumption | omega | (simp <;> omega)))
 simp only [vx, q101, reduceIte, rE, rA, rL, reduceCtorEq]
 (refine draw_ok (by decide +kernel) (z _ ?_))
 refine c_ret1 ?_
 simp only [vx, reduceIte, rE, reduceCtorEq]
 rotate_left
 ·
  unfold fcV; rw [if_pos hp1]
 ·
  unfold fcV; rw [if_neg hp1]; simp (disch := omega) only [wr64]
theorem spec78 (r : PRules) (ls : List (Int × Int)) (k b a : Int) (hr : RulOk r) (h1 : 1 ≤ b ∧ b ≤ 1000) (h2 : 1 ≤ a ∧ a ≤ 1000) (hle : a ≤ b) : Sp0 78 [milV r ls, .agg [nn k, nn b, nn a]] (R.v (p2 (fcV r.width b a r.slo r.flo, fcV r.width b a r.shi r.fhi))) := by
 have e1 := hr.slo
 have e2 := hr.shi
 have e3 := hr.flo
 have e4 := hr.fhi
 have g1 : 0 ≤ r.slo ∧ r.slo ≤ 100 := by omega
 have g2 : 0 ≤ r.shi ∧ r.shi ≤ 100 := by omega
 refine sP mixed Tryz.func78 ?_; simp only [argsG, Nat.zero_add]
 refine cR fun K z => ?_
 simp only [vx, q78, reduceIte, rE, rA, reduceCtorEq]
 refine nb ?_
 refine nb ?_
 refine nb ?_
 apply z
 refine c_draw fun K z => ?_
 simp only [vx, q78, reduceIte, rE, rA, rL, reduceCtorEq]
 (refine dC (spec101 _ _ _ _ _ _ _ ?ye ?yf ?yg ?yh ?yi ?yj) ?_; (case ye | yf | yg | yh | yi | yj => first | assumption | omega | (simp <;> omega)))
 simp only [vx, q78, reduceIte, rE, rA, rL, reduceCtorEq]
 (refine dC (spec101 _ _ _ _ _ _ _ ?yk ?yl ?ym ?yn ?yo ?yp) ?_; (case yk | yl | ym | yn | yo | yp => first | assumption | omega | (simp <;> omega)))
 simp only [vx, q78, reduceIte, rE, rA, rL, reduceCtorEq]
 (refine draw_ok (by decide +kernel) (z _ ?_))
 refine c_ret1 ?_
 simp only [vm, q78, reduceIte, rE, rA, rL, reduceCtorEq]
theorem spec39 (r : PRules) (ls : List (Int × Int)) (k b a : Int) (hr : RulOk r) (h1 : 1 ≤ b ∧ b ≤ 1000) (h2 : 1 ≤ a ∧ a ≤ 1000) (hle : a ≤ b) : Sp0 39 [milV r ls, .agg [nn k, nn b, nn a]] (R.v (nn (fcV r.width b a r.shi r.fhi * (b - a)))) := by
 have e2 := hr.shi
 have e4 := hr.fhi
 have hw := hr.width
 obtain ⟨p1, p2, p3, p4⟩ := fc_bound (w := r.width) (by omega) h1 h2 hle (show 0 ≤ r.shi ∧ r.shi ≤ 100 by omega) e4
 have p5 := tq_bound p4 (show 0 ≤ b - a ∧ b - a ≤ 999 by omega)
 refine sP mixed Tryz.func39 ?_; simp only [argsG, Nat.zero_add]
 refine cR fun K z => ?_
 simp only [vx, reduceIte, rE, rA, reduceCtorEq]
 refine nb ?_
 refine nb ?_
 apply z
 refine c_draw fun K z => ?_
 simp only [vx, q39, reduceIte, rE, rA, rL, reduceCtorEq]
 (refine dC (spec78 _ _ _ _ _ ?yq ?yr ?ys ?yt) ?_; (case yq | yr | ys | yt => first | assumption | omega | (simp <;> omega)))
 simp only [vx, q39, reduceIte, rE, rA, rL, reduceCtorEq]
 (refine dC (spec79 _ _ _ ?yu ?yv) ?_; (case yu | yv => first | assumption | omega | (simp <;> omega)))
 simp only [vx, reduceIte, rE, reduceCtorEq]
 (refine draw_ok (by decide +kernel) (z _ ?_))
 refine c_ret1 ?_
 simp only [vx, reduceIte, rE, reduceCtorEq]
 simp (disch := omega) only [wr64]
theorem spec95 (r : PRules) (ls : List (Int × Int)) (k : Nat) (b a fr : Int) (hr : RulOk r) (hk : k < r.stands.length) (h1 : 1 ≤ b ∧ b ≤ 1000) (h2 : 1 ≤ a ∧ a ≤ 1000) (hle : a ≤ b) (hf : 0 ≤ fr ∧ fr ≤ 100) : Sp0 95 [milV r ls, .agg [nn k, nn b, nn a], nn fr] (R.v (nn (gripV (r.stands.getD k default).rad b a fr))) := by
 have hs := (hr.std k hk).rad
 obtain ⟨p1, p2⟩ := gr_bound hs h1 h2 hle hf
 refine sP mixed Tryz.func95 ?_; simp only [argsG, Nat.zero_add, rA]
 refine cR fun K z => ?_
 simp only [vx, reduceIte, rE, rA, reduceCtorEq]
 refine nb ?_
 refine nb ?_
 apply z
 refine cA ?_
 refine cR fun K z => ?_
 simp only [vx, q95, reduceIte, rE, rA, rL, reduceCtorEq]
 (refine sC (spec79 _ _ _ ?yw ?yx) ?_; (case yw | yx => first | assumption | omega | (simp <;> omega)))
 simp only [vx, reduceIte, rE, reduceCtorEq]
 apply z
 refine cI _ rfl (fun hb1 => ?_) (fun hb1 => ?_) <;> (have hp1 := hb1; try simp only [beq_iff_eq, beq_eq_false_iff_ne] at hp1)
 refine cA ?_
 refine cR fun K z => ?_
 simp only [vx, hb1]
 apply z
 refine c_ret ?_
 simp only [vx, reduceIte, rE, reduceCtorEq]
 rotate_left
 refine cS ?_
 refine c_draw fun K z => ?_
 simp only [vx, q95, hb1, reduceIte, rE, rA, rL, reduceCtorEq]
 (refine aM default ?_; simp only [vx, q95, reduceIte, rE, rA, rL, reduceCtorEq])
 simp (disch := omega) only [wr64]
 (refine dC (spec79 _ _ _ ?yy ?yz) ?_; (case yy | yz => first | assumption | omega | (simp <;> omega)))
 simp only [vx, reduceIte, rE, reduceCtorEq]
 (refine draw_ok (by decide +kernel) (z _ ?_))
 refine c_ret1 ?_
 simp only [vx, reduceIte, rE, reduceCtorEq]
 rotate_left
 ·
  unfold gripV; rw [if_pos hp1]
 ·
  unfold gripV; rw [if_neg hp1]; simp (disch := omega) only [wr64]
theorem spec98 (r : PRules) (ls : List (Int × Int)) (k b a heat loss st : Int) (hr : RulOk r) (h2 : 1 ≤ a ∧ a ≤ 1000) (hle : a ≤ r.start) (hh : 0 ≤ heat ∧ heat ≤ 20000) (hl : 0 ≤ loss ∧ loss ≤ 6000) (hs : 0 ≤ st ∧ st ≤ 100) : Sp0 98 [milV r ls, .agg [nn k, nn b, nn a], nn heat, nn loss, nn st] (R.v (nn (warmV r.start a heat loss st))) := by
 have h0 := hr.start
 obtain ⟨p1, p2⟩ := wm_bound h0 h2 hle hh hl hs
 unfold warmV at p2
 refine sP mixed Tryz.func98 ?_; simp only [argsG, Nat.zero_add, rA]
 refine cR fun K z => ?_
 simp only [vx, reduceIte, rE, rA, reduceCtorEq]
 refine nb ?_
 refine nb ?_
 apply z
 refine cR fun K z => ?_
 simp only [vx, q98, reduceIte, rE, rA, rL, reduceCtorEq]
 (simp (disch := omega) only [wr64]; try simp only [vx, vt, vp, q98, mapstd, mapp2, Int.reduceBNe, Int.reduceBEq, Int.reduceLT, Int.reduceLE, Int.reduceGT, Int.reduceGE, decide_true, decide_false, bne_self_eq_false, beq_self_eq_true, reduceIte, rE, rA, rL, rM, rT, reduceCtorEq])
 apply z
 refine c_ret1 ?_
 simp only [vx, reduceIte, rE, reduceCtorEq]
 rfl
 all_goals (unfold warmV; simp (disch := omega) only [wr64])
theorem spec75 (r : PRules) (ls : List (Int × Int)) (k : Nat) (b a : Int) (hr : RulOk r) (hk : k < ls.length) (hl : ∀ i, i < ls.length → (0 ≤ (ls.getD i default).1 ∧ (ls.getD i default).1 ≤ 6000) ∧ (0 ≤ (ls.getD i default).2 ∧ (ls.getD i default).2 ≤ 6000)) (h2 : 1 ≤ a ∧ a ≤ 1000) (hle : a ≤ r.start) : Sp0 75 [milV r ls, .agg [nn k, nn b, nn a]] (R.v (p2 (warmV r.start a r.hlo (ls.getD k default).2 r.slo, warmV r.start a r.hhi (ls.getD k default).1 r.shi))) := by
 have e1 := hr.slo
 have e2 := hr.shi
 have e3 := hr.hlo
 have e4 := hr.hhi
 have g1 : 0 ≤ r.slo ∧ r.slo ≤ 100 := by omega
 have g2 : 0 ≤ r.shi ∧ r.shi ≤ 100 := by omega
 obtain ⟨g3, g4⟩ := hl k hk
 refine sP mixed Tryz.func75 ?_; simp only [argsG, Nat.zero_add]
 refine cR fun K z => ?_
 simp only [vx, q75, reduceIte, rE, rA, reduceCtorEq]
 refine nb ?_
 refine nb ?_
 refine nb ?_
 apply z
 refine cR fun K z => ?_
 simp only [vx, q75, reduceIte, rE, rA, rL, reduceCtorEq]
 (refine aM default ?_; simp only [vx, q75, reduceIte, rE, rA, reduceCtorEq])
 refine nb ?_
 apply z
 refine c_draw fun K z => ?_
 simp only [vx, q75, reduceIte, rE, rA, rL, reduceCtorEq]
 (refine dC (spec98 _ _ _ _ _ _ _ _ ?yba ?ybb ?ybc ?ybd ?ybe ?ybf) ?_; (case yba | ybb | ybc | ybd | ybe | ybf => first | assumption | omega | (simp <;> omega)))
 simp only [vx, q75, reduceIte, rE, rA, rL, reduceCtorEq]
 (refine dC (spec98 _ _ _ _ _ _ _ _ ?ybg ?ybh ?ybi ?ybj ?ybk ?ybl) ?_; (case ybg | ybh | ybi | ybj | ybk | ybl => first | assumption | omega | (simp <;> omega)))
 simp only [vx, q75, reduceIte, rE, rA, rL, reduceCtorEq]
 (refine draw_ok (by decide +kernel) (z _ ?_))
 refine c_ret1 ?_
 simp only [vm, q75, reduceIte, rE, rA, rL, reduceCtorEq]
end Go.Vm
