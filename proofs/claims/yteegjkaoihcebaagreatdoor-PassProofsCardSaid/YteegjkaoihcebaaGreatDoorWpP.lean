import Derived.Test.YteegjkaoihcebaaGreatDoorVmBC
import Derived.Test.YteegjkaoihcebaaGreatDoorWpJ
set_option linter.all false
namespace Go.Vm
open Go.Proofs
open Nat renaming reduceEqDiff → rE, reduceAdd → rA, reduceLeDiff → rL, reduceLT → rT, reduceMul → rM
set_option maxRecDepth 20000
set_option maxHeartbeats 8000000
def mF (r : PRules) (k : Nat) (b a : Int) : Int × Int := ((r.stands.getD k default).force - fcV r.width b a r.shi r.fhi, (r.stands.getD k default).force - fcV r.width b a r.slo r.flo)
def mT (r : PRules) (k : Nat) (b a : Int) : Int × Int := ((r.stands.getD k default).torque - fcV r.width b a r.shi r.fhi * (b - a), (r.stands.getD k default).torque - fcV r.width b a r.slo r.flo * (b - a))
def mB (r : PRules) (k : Nat) (b a : Int) : Int × Int := (gripV (r.stands.getD k default).rad b a r.flo, gripV (r.stands.getD k default).rad b a r.fhi)
def mC (r : PRules) (l : Int × Int) (a : Int) : Int × Int := (warmV r.start a r.hlo l.2 r.slo - r.cold * 100, warmV r.start a r.hhi l.1 r.shi - r.cold * 100)
def marL (r : PRules) (ls : List (Int × Int)) (k : Nat) (b a : Int) : List (Int × Int) := [mF r k b a, mT r k b a, mB r k b a, mC r (ls.getD k default) a]
abbrev marV (M : List (Int × Int)) : V := .agg [nn (M.getD 0 default).1, nn (M.getD 0 default).2, nn 1, nn (M.getD 1 default).1, nn (M.getD 1 default).2, nn 1, nn (M.getD 2 default).1, nn (M.getD 2 default).2, nn 100, nn (M.getD 3 default).1, nn (M.getD 3 default).2, nn 100]
def LosOk (ls : List (Int × Int)) : Prop := ∀ i, i < ls.length → (0 ≤ (ls.getD i default).1 ∧ (ls.getD i default).1 ≤ 6000) ∧ (0 ≤ (ls.getD i default).2 ∧ (ls.getD i default).2 ≤ 6000)
theorem spec64 (r : PRules) (ls : List (Int × Int)) (k : Nat) (b a : Int) (hr : RulOk r) (hk : k < r.stands.length) (hkl : k < ls.length) (hl : LosOk ls) (h1 : 1 ≤ b ∧ b ≤ 1000) (h2 : 1 ≤ a ∧ a ≤ 1000) (hle : a ≤ b) (has : a ≤ r.start) : Sp0 64 [milV r ls, .agg [nn k, nn b, nn a]] (R.v (marV (marL r ls k b a))) := by
 have e1 := hr.slo
 have e2 := hr.shi
 have e3 := hr.flo
 have e4 := hr.fhi
 have e5 := hr.hlo
 have e6 := hr.hhi
 have e7 := hr.cold
 have e8 := hr.start
 have hw := hr.width
 have hstd := hr.std k hk
 have f1 := hstd.force
 have f2 := hstd.torque
 have f3 := hstd.rad
 have g1 : 0 ≤ r.slo ∧ r.slo ≤ 100 := by omega
 have g2 : 0 ≤ r.shi ∧ r.shi ≤ 100 := by omega
 obtain ⟨_, _, _, p1⟩ := fc_bound (w := r.width) (by omega) h1 h2 hle g1 e3
 obtain ⟨_, _, _, p2⟩ := fc_bound (w := r.width) (by omega) h1 h2 hle g2 e4
 have tq1 := tq_bound p1 (show 0 ≤ b - a ∧ b - a ≤ 999 by omega)
 have tq2 := tq_bound p2 (show 0 ≤ b - a ∧ b - a ≤ 999 by omega)
 obtain ⟨l1, l2⟩ := hl k hkl
 obtain ⟨_, w1⟩ := wm_bound (st := r.slo) (heat := r.hlo) e8 h2 has e5 l2 g1
 obtain ⟨_, w2⟩ := wm_bound (st := r.shi) (heat := r.hhi) e8 h2 has e6 l1 g2
 have hl' := hl
 unfold LosOk at hl'
 refine sP mixed Tryz.func64 ?_; simp only [argsG, Nat.zero_add]
 refine cR fun K z => ?_
 simp only [vx, q64, reduceIte, rE, rA, reduceCtorEq]
 refine nb ?_
 refine nb ?_
 refine nb ?_
 apply z
 refine c_draw fun K z => ?_
 simp only [vx, q64, reduceIte, rE, rA, rL, reduceCtorEq]
 (refine aM default ?_; simp only [vx, q64, reduceIte, rE, rA, rL, reduceCtorEq])
 (refine dC (spec78 _ _ _ _ _ ?ya ?yb ?yc ?yd) ?_; (case ya | yb | yc | yd => first | assumption | omega | (simp <;> omega)))
 simp only [vx, q64, reduceIte, rE, rA, rL, reduceCtorEq]
 (refine dC (spec75 _ _ _ _ _ ?ye ?yf ?yg ?yh ?yi) ?_; (case ye | yf | yg | yh | yi => first | assumption | omega | (simp <;> omega)))
 simp only [vx, q64, reduceIte, rE, rA, rL, reduceCtorEq]
 refine nb ?_
 refine nb ?_
 refine nb ?_
 (refine draw_ok (by decide +kernel) (z _ ?_))
 refine cR fun K z => ?_
 simp only [vx, q64, reduceIte, rE, rA, rL, reduceCtorEq]
 (simp (disch := omega) only [wr64]; try simp only [vx, vt, vp, q64, mapstd, mapp2, Int.reduceBNe, Int.reduceBEq, Int.reduceLT, Int.reduceLE, Int.reduceGT, Int.reduceGE, decide_true, decide_false, bne_self_eq_false, beq_self_eq_true, reduceIte, rE, rA, rL, rM, rT, reduceCtorEq])
 apply z
 refine c_draw fun K z => ?_
 simp only [vx, q64, reduceIte, rE, rA, rL, reduceCtorEq]
 simp (disch := omega) only [wr64]
 (refine dC (spec79 _ _ _ ?yj ?yk) ?_; (case yj | yk => first | assumption | omega | (simp <;> omega)))
 simp only [vx, q64, reduceIte, rE, rA, rL, reduceCtorEq]
 simp (disch := omega) only [wr64]
 (refine dC (spec79 _ _ _ ?yl ?ym) ?_; (case yl | ym => first | assumption | omega | (simp <;> omega)))
 simp only [vx, q64, reduceIte, rE, rA, rL, reduceCtorEq]
 simp (disch := omega) only [wr64]
 (refine dC (spec95 _ _ _ _ _ _ ?yn ?yo ?yp ?yq ?yr ?ys) ?_; (case yn | yo | yp | yq | yr | ys => first | assumption | omega | (simp <;> omega)))
 simp only [vx, q64, reduceIte, rE, rA, rL, reduceCtorEq]
 (refine dC (spec95 _ _ _ _ _ _ ?yt ?yu ?yv ?yw ?yx ?yy) ?_; (case yt | yu | yv | yw | yx | yy => first | assumption | omega | (simp <;> omega)))
 simp only [vx, q64, reduceIte, rE, rA, rL, reduceCtorEq]
 (refine draw_ok (by decide +kernel) (z _ ?_))
 refine c_ret1 ?_
 simp only [vm, q64, reduceIte, rE, rA, rL, reduceCtorEq]
 all_goals (simp only [marL, mF, mT, mB, mC]; simp (disch := omega) only [wr64]; try rfl)
end Go.Vm
