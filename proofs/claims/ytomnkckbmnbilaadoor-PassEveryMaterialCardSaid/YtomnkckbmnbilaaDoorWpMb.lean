import Derived.Test.YtomnkckbmnbilaaDoorVmBC
import Derived.Test.YtomnkckbmnbilaaDoorWpMa
import Derived.Test.YtomnkckbmnbilaaDoorWpL
import Derived.Test.YtomnkckbmnbilaaDoorWpM
import Derived.Test.YtomnkckbmnbilaaDoorWpP
import Derived.Test.YtomnkckbmnbilaaDoorWpN
set_option linter.all false
namespace Go.Vm
open Go.Proofs
set_option maxRecDepth 20000
set_option maxHeartbeats 8000000
--DEF RUL = nn r.width; nn r.start; nn r.finish; nn r.hlo; nn r.hhi; nn r.cold; V.sl (r.stands.map stdV); nn r.slo; nn r.shi; nn r.flo; nn r.fhi
theorem spec66 (n : Int) : Sp0 66 [nn n] (R.v (.agg [nn n, nn n])) := by
 refine spec_of mixed (fun _ _ _ h => h) Tryd.func66 (by decide +kernel) rfl (rs := _) rfl (by rfl) rfl (by simp [Tryd.f66]) (by decide +kernel) ?_; simp only [argsG]
 refine c_reg fun K hK => ?_
 simp only [vm, q66, Nat.reduceAdd]
 refine need_by (by first | assumption | omega | (simp; done) | (simp; omega)) ?_
 (refine hK _ ?_; clear hK K)
 refine c_reg fun K hK => ?_
 simp only [vm, vr, q66, reduceIte, Nat.reduceEqDiff, Nat.reduceAdd, Nat.reduceLeDiff, reduceCtorEq]
 (refine hK _ ?_; clear hK K)
 refine c_ret1 ?_
 simp only [vm, q66, reduceIte, Nat.reduceEqDiff, Nat.reduceAdd, Nat.reduceLeDiff, reduceCtorEq]
theorem spec67 (xs : List PStand) (h0 : xs ≠ []) (hl : xs.length < 1000000) : Sp0 67 [.sl (xs.map stdV)] (.one (.c (.arr 60 5 (xs.map stdV)))) := by
 obtain ⟨y, ys, rfl⟩ := List.exists_cons_of_ne_nil h0
 refine spec_of_x mixed (fun _ _ _ h => h) Tryd.func67 (by decide +kernel) rfl (rs := _) rfl (by rfl) rfl (by simp [Tryd.f67]) (by decide +kernel) ?_; simp only [argsG]
 refine c_reg fun K hK => ?_
 simp only [vm]
 (refine hK _ ?_; clear hK K)
 refine c_assoc ?_
 refine c_reg fun K hK => ?_
 simp only [vm, q67, reduceIte, Nat.reduceEqDiff, reduceCtorEq]
 (refine hK _ ?_; clear hK K)
 refine c_if _ rfl (fun hb1 => ?_) (fun hb1 => ?_) <;> (have hp1 := hb1; try simp only [] at hp1)
 cases hb1
 refine c_skip ?_
 refine c_reg fun K hK => ?_
 simp only [vm, vr, vp, q67, mapstd, reduceIte, Nat.reduceEqDiff, Nat.reduceAdd, Nat.reduceLeDiff, Nat.reduceMul, Nat.reduceLT, reduceCtorEq]
 refine need_by (by first | assumption | omega | (simp; done) | (simp; omega)) ?_
 refine need_by2 ?_ ?_
 (refine hK _ ?_; clear hK K)
 refine c_ret1 ?_
 simp only [vm, vr, reduceIte, Nat.reduceEqDiff, reduceCtorEq]
 exact ⟨_, rfl, rfl⟩
 all_goals (simp only [List.length_cons] at hl; omega)
theorem spec71 (r : PRules) (ls : List (Int × Int)) (k : Nat) (b a : Int) (hr : RulOk r) (hk : k < ls.length) (hl : ∀ i, i < ls.length → (0 ≤ (ls.getD i default).1 ∧ (ls.getD i default).1 ≤ 6000) ∧ (0 ≤ (ls.getD i default).2 ∧ (ls.getD i default).2 ≤ 6000)) (h2 : 1 ≤ a ∧ a ≤ 1000) (hle : a ≤ r.start) : Sp0 71 [.agg [nn k, nn b, nn a], .ref [nn r.width, nn r.start, nn r.finish, nn r.hlo, nn r.hhi, nn r.cold, .sl (r.stands.map stdV), nn r.slo, nn r.shi, nn r.flo, nn r.fhi, .sl (ls.map p2)]] (R.v (p2 (lowV (warmV r.start a r.hlo (ls.getD k default).2 r.slo) 100))) := by
 have e1 := hr.slo
 have e3 := hr.hlo
 have e8 := hr.start
 have g1 : 0 ≤ r.slo ∧ r.slo ≤ 100 := by omega
 obtain ⟨l1, l2⟩ := hl k hk
 obtain ⟨_, w1⟩ := wm_bound (st := r.slo) (heat := r.hlo) e8 h2 hle e3 l2 g1
 refine spec_of mixed (fun _ _ _ h => h) Tryd.func71 (by decide +kernel) rfl (rs := _) rfl (by rfl) rfl (by simp [Tryd.f71]) (by decide +kernel) ?_; simp only [argsG, Nat.zero_add]
 refine c_reg fun K hK => ?_
 simp only [vm, vr, q71, reduceIte, Nat.reduceEqDiff, Nat.reduceAdd, reduceCtorEq]
 refine need_by (by first | assumption | omega | (simp; done) | (simp; omega)) ?_
 refine need_by (by first | assumption | omega | (simp; done) | (simp; omega)) ?_
 (refine hK _ ?_; clear hK K)
 refine c_reg fun K hK => ?_
 simp only [vm, vr, q71, reduceIte, Nat.reduceEqDiff, Nat.reduceAdd, Nat.reduceLeDiff, reduceCtorEq]
 (apply s_call (spec73 _ _ _ _ _ ?s3801x1 ?s3801x2 ?s3801x3 ?s3801x4 ?s3801x5); (case hf => rfl); (case hq => (simp only [vm, reduceIte, Nat.reduceEqDiff, reduceCtorEq]; rfl)); (case hvs => rfl); (case s3801x1 | s3801x2 | s3801x3 | s3801x4 | s3801x5 => first | assumption | omega | (simp; done) | (simp; omega)))
 simp only [vm, vr, q71, reduceIte, Nat.reduceEqDiff, Nat.reduceAdd, Nat.reduceLeDiff, reduceCtorEq]
 (apply s_call (spec72 _ _ ?s3802x1 ?s3802x2 ?s3802x3 ?s3802x4); (case hf => rfl); (case hq => (simp only [vm, reduceIte, Nat.reduceEqDiff, reduceCtorEq]; rfl)); (case hvs => rfl); (case s3802x1 | s3802x2 | s3802x3 | s3802x4 => first | assumption | omega | (simp; done) | (simp; omega)))
 simp only [vm, vr, q71, reduceIte, Nat.reduceEqDiff, Nat.reduceAdd, Nat.reduceLeDiff, reduceCtorEq]
 (refine hK _ ?_; clear hK K)
 refine c_ret1 ?_
 simp only [vm, q71, reduceIte, Nat.reduceEqDiff, Nat.reduceAdd, Nat.reduceLeDiff, reduceCtorEq]
def rolF (r : PRules) (m : PMat) (d : D3) : Int × Int := lowV (warmV r.start d.2.2 m.heat ((LS (oneR r m)).getD d.1.toNat default).2 m.stress) 100
theorem one_len' {r : PRules} {m : PMat} : (oneR r m).stands.length = r.stands.length := by
 rw [show (oneR r m).stands = stN r.stands m.losses r.stands.length from rfl, stN_len]
theorem rol_eq {r : PRules} {s : PSched} {m : PMat} {n : Nat} (hn : n ≤ r.stands.length) : (drs r s n).map (rolF r m) = matL r s m n := by
 unfold drs matL
 rw [List.map_map]
 refine List.map_congr_left fun k hk => ?_
 have hk' := List.mem_range.1 hk
 show lowV (warmV r.start (s.ths.getD k 0) m.heat ((LS (oneR r m)).getD (k : Int).toNat default).2 m.stress) 100 = lowV (matW r s m k) 100
 rw [Int.toNat_natCast]
 unfold LS
 rw [lossL_at (by rw [one_len']; omega), sum_one (by omega)]
 rfl
theorem low_take {M : List (Int × Int)} {j : Nat} (h : j < M.length) : lowQ (M.take (j + 1)) = (lowQ (M.take j) || decide ((M.getD j default).1 < 0)) := by
 rw [takeS default h]; simp [lowQ, List.any_append]
end Go.Vm
