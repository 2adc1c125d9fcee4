import Derived.Test.YtomnkckbmnbilaaDoorVmBC
import Derived.Test.YtomnkckbmnbilaaDoorWpN
import Derived.Test.YtomnkckbmnbilaaDoorWpV
set_option linter.all false
namespace Go.Vm
open Go.Proofs
set_option maxRecDepth 20000
set_option maxHeartbeats 8000000
--DEF MIL = nn r.width, nn r.start, nn r.finish, nn r.hlo, nn r.hhi, nn r.cold, .sl (r.stands.map stdV), nn r.slo, nn r.shi, nn r.flo, nn r.fhi, .sl ((LS r).map p2)
theorem kp2 {x y x' y' : Int} (h : x = x') (k : y = y') : R.v (p2 (x, y)) = R.v (.agg [nn x', nn y']) := by subst h; subst k; rfl
theorem td1 : IntKind.wrap .i64 (Int.tdiv 100 1) = 100 := by decide
theorem td2 : IntKind.wrap .i64 (Int.tdiv 100 100) = 1 := by decide
def marF (r : PRules) (j : Nat) (d : D3) : Int × Int := mar100 r d.1.toNat d.2.1 d.2.2 j
theorem marF_at {r : PRules} {s : PSched} {j k : Nat} : marF r j (drV r s k) = m100 r s k j := by
  unfold marF m100 drV; simp only [Int.toNat_natCast]
theorem marO_0 (r : PRules) (k : Nat) (b a : Int) (h : MHyp r k b a) : Sp0 101 [.agg [nn k, nn b, nn a], .ref [nn r.width, nn r.start, nn r.finish, nn r.hlo, nn r.hhi, nn r.cold, .sl (r.stands.map stdV), nn r.slo, nn r.shi, nn r.flo, nn r.fhi, .sl ((LS r).map p2)], .ref [nn 0]] (R.v (p2 (mar100 r k b a 0))) := by
  obtain ⟨b1, b2, b3, b4, b5, b6, b7, b8⟩ := mbounds h
  have hm := mar_0 (r := r) (k := k) (b := b) (a := a)
  obtain ⟨hr, hk, h1, h2, hle, has⟩ := h
  have hstd := hr.std k hk
  have f1 := hstd.force
  have f2 := hstd.torque
  have f3 := hstd.rad
  have e3 := hr.flo
  have e4 := hr.fhi
  have e7 := hr.cold
  obtain ⟨_, gr1⟩ := gr_bound (fr := r.flo) f3 h1 h2 hle e3
  obtain ⟨_, gr2⟩ := gr_bound (fr := r.fhi) f3 h1 h2 hle e4
  have hla : (LS r).getD k default = sumT r.stands (k + 1) := by unfold LS; rw [lossL_at hk]
  have hs69 : Sp0 69 [milV r (LS r), .agg [nn k, nn b, nn a]] (R.v (.agg [nn ((r.stands.getD k default).force - fcV r.width b a r.shi r.fhi), nn ((r.stands.getD k default).force - fcV r.width b a r.slo r.flo), nn 1, nn ((r.stands.getD k default).torque - fcV r.width b a r.shi r.fhi * (b - a)), nn ((r.stands.getD k default).torque - fcV r.width b a r.slo r.flo * (b - a)), nn 1, nn (gripV (r.stands.getD k default).rad b a r.flo), nn (gripV (r.stands.getD k default).rad b a r.fhi), nn 100, nn (warmV r.start a r.hlo (sumT r.stands (k + 1)).2 r.slo - r.cold * 100), nn (warmV r.start a r.hhi (sumT r.stands (k + 1)).1 r.shi - r.cold * 100), nn 100])) := by
    have := spec69 r (LS r) k b a hr hk (by unfold LS; rw [lossL_len]; exact hk) (los_ok hr) h1 h2 hle has
    simp only [marV, marL, mF, mT, mB, mC, List.getD_cons_zero, List.getD_cons_succ, hla] at this
    exact this
  rw [hm]
  refine spec_of mixed (fun _ _ _ h => h) Tryd.func101 (by decide +kernel) rfl (rs := _) rfl (by rfl) rfl (by simp [Tryd.f101]) (by decide +kernel) ?_; simp only [argsG, Nat.zero_add, Nat.reduceAdd]
  refine c_reg fun K hK => ?_
  simp (maxSteps := 2000000) only [vm, vr, q101, reduceIte, Nat.reduceEqDiff, Nat.reduceAdd, reduceCtorEq]
  refine need_by (by first | assumption | omega | (simp; done) | (simp; omega)) ?_
  refine need_by (by first | assumption | omega | (simp; done) | (simp; omega)) ?_
  (refine hK _ ?_; clear hK; clear K)
  refine c_draw fun K hK => ?_
  simp (maxSteps := 2000000) only [vm, vr, q101, reduceIte, Nat.reduceEqDiff, Nat.reduceAdd, Nat.reduceLeDiff, reduceCtorEq]
  (apply d_call (hs69); (case hf => rfl); (case hq => (simp (maxSteps := 2000000) only [vm, reduceIte, Nat.reduceEqDiff, reduceCtorEq]; rfl)); (case hvs => rfl))
  simp (maxSteps := 2000000) only [vm, vr, vp, q101, Int.reduceLE, reduceIte, Nat.reduceEqDiff, Nat.reduceAdd, Nat.reduceLeDiff, Nat.reduceMul, reduceCtorEq]
  refine need_by (by first | assumption | omega | (simp; done) | (simp; omega)) ?_
  refine need_by (by first | assumption | omega | (simp; done) | (simp; omega)) ?_
  (refine draw_ok (by decide +kernel) (hK _ ?_); clear hK; clear K)
  refine c_draw fun K hK => ?_
  simp (maxSteps := 2000000) only [vm, vr, q101, td1, reduceIte, Nat.reduceEqDiff, Nat.reduceAdd, Nat.reduceLeDiff, reduceCtorEq]
  refine need_by (by first | assumption | omega | (simp; done) | (simp; omega)) ?_
  refine need_by (by first | assumption | omega | (simp; done) | (simp; omega)) ?_
  (refine draw_ok (by decide +kernel) (hK _ ?_); clear hK; clear K)
  refine c_ret1 ?_
  simp (maxSteps := 2000000) only [vm, q101, reduceIte, Nat.reduceEqDiff, Nat.reduceAdd, Nat.reduceLeDiff, reduceCtorEq]
  all_goals ((try simp (disch := omega) only [wr64]); first | done | exact kp2 (by omega) (by omega))
theorem marO_1 (r : PRules) (k : Nat) (b a : Int) (h : MHyp r k b a) : Sp0 101 [.agg [nn k, nn b, nn a], .ref [nn r.width, nn r.start, nn r.finish, nn r.hlo, nn r.hhi, nn r.cold, .sl (r.stands.map stdV), nn r.slo, nn r.shi, nn r.flo, nn r.fhi, .sl ((LS r).map p2)], .ref [nn 1]] (R.v (p2 (mar100 r k b a 1))) := by
  obtain ⟨b1, b2, b3, b4, b5, b6, b7, b8⟩ := mbounds h
  have hm := mar_1 (r := r) (k := k) (b := b) (a := a)
  obtain ⟨hr, hk, h1, h2, hle, has⟩ := h
  have hstd := hr.std k hk
  have f1 := hstd.force
  have f2 := hstd.torque
  have f3 := hstd.rad
  have e3 := hr.flo
  have e4 := hr.fhi
  have e7 := hr.cold
  obtain ⟨_, gr1⟩ := gr_bound (fr := r.flo) f3 h1 h2 hle e3
  obtain ⟨_, gr2⟩ := gr_bound (fr := r.fhi) f3 h1 h2 hle e4
  have hla : (LS r).getD k default = sumT r.stands (k + 1) := by unfold LS; rw [lossL_at hk]
  have hs69 : Sp0 69 [milV r (LS r), .agg [nn k, nn b, nn a]] (R.v (.agg [nn ((r.stands.getD k default).force - fcV r.width b a r.shi r.fhi), nn ((r.stands.getD k default).force - fcV r.width b a r.slo r.flo), nn 1, nn ((r.stands.getD k default).torque - fcV r.width b a r.shi r.fhi * (b - a)), nn ((r.stands.getD k default).torque - fcV r.width b a r.slo r.flo * (b - a)), nn 1, nn (gripV (r.stands.getD k default).rad b a r.flo), nn (gripV (r.stands.getD k default).rad b a r.fhi), nn 100, nn (warmV r.start a r.hlo (sumT r.stands (k + 1)).2 r.slo - r.cold * 100), nn (warmV r.start a r.hhi (sumT r.stands (k + 1)).1 r.shi - r.cold * 100), nn 100])) := by
    have := spec69 r (LS r) k b a hr hk (by unfold LS; rw [lossL_len]; exact hk) (los_ok hr) h1 h2 hle has
    simp only [marV, marL, mF, mT, mB, mC, List.getD_cons_zero, List.getD_cons_succ, hla] at this
    exact this
  rw [hm]
  refine spec_of mixed (fun _ _ _ h => h) Tryd.func101 (by decide +kernel) rfl (rs := _) rfl (by rfl) rfl (by simp [Tryd.f101]) (by decide +kernel) ?_; simp only [argsG, Nat.zero_add, Nat.reduceAdd]
  refine c_reg fun K hK => ?_
  simp (maxSteps := 2000000) only [vm, vr, q101, reduceIte, Nat.reduceEqDiff, Nat.reduceAdd, reduceCtorEq]
  refine need_by (by first | assumption | omega | (simp; done) | (simp; omega)) ?_
  refine need_by (by first | assumption | omega | (simp; done) | (simp; omega)) ?_
  (refine hK _ ?_; clear hK; clear K)
  refine c_draw fun K hK => ?_
  simp (maxSteps := 2000000) only [vm, vr, q101, reduceIte, Nat.reduceEqDiff, Nat.reduceAdd, Nat.reduceLeDiff, reduceCtorEq]
  (apply d_call (hs69); (case hf => rfl); (case hq => (simp (maxSteps := 2000000) only [vm, reduceIte, Nat.reduceEqDiff, reduceCtorEq]; rfl)); (case hvs => rfl))
  simp (maxSteps := 2000000) only [vm, vr, q101, Int.reduceLE, reduceIte, Nat.reduceEqDiff, Nat.reduceAdd, Nat.reduceLeDiff, Nat.reduceMul, reduceCtorEq]
  refine need_by (by first | assumption | omega | (simp; done) | (simp; omega)) ?_
  refine need_by (by first | assumption | omega | (simp; done) | (simp; omega)) ?_
  (refine draw_ok (by decide +kernel) (hK _ ?_); clear hK; clear K)
  refine c_draw fun K hK => ?_
  simp (maxSteps := 2000000) only [vm, vr, q101, td1, reduceIte, Nat.reduceEqDiff, Nat.reduceAdd, Nat.reduceLeDiff, reduceCtorEq]
  refine need_by (by first | assumption | omega | (simp; done) | (simp; omega)) ?_
  refine need_by (by first | assumption | omega | (simp; done) | (simp; omega)) ?_
  (refine draw_ok (by decide +kernel) (hK _ ?_); clear hK; clear K)
  refine c_ret1 ?_
  simp (maxSteps := 2000000) only [vm, q101, reduceIte, Nat.reduceEqDiff, Nat.reduceAdd, Nat.reduceLeDiff, reduceCtorEq]
  all_goals ((try simp (disch := omega) only [wr64]); first | done | exact kp2 (by omega) (by omega))
theorem marO_2 (r : PRules) (k : Nat) (b a : Int) (h : MHyp r k b a) : Sp0 101 [.agg [nn k, nn b, nn a], .ref [nn r.width, nn r.start, nn r.finish, nn r.hlo, nn r.hhi, nn r.cold, .sl (r.stands.map stdV), nn r.slo, nn r.shi, nn r.flo, nn r.fhi, .sl ((LS r).map p2)], .ref [nn 2]] (R.v (p2 (mar100 r k b a 2))) := by
  obtain ⟨b1, b2, b3, b4, b5, b6, b7, b8⟩ := mbounds h
  have hm := mar_2 (r := r) (k := k) (b := b) (a := a)
  obtain ⟨hr, hk, h1, h2, hle, has⟩ := h
  have hstd := hr.std k hk
  have f1 := hstd.force
  have f2 := hstd.torque
  have f3 := hstd.rad
  have e3 := hr.flo
  have e4 := hr.fhi
  have e7 := hr.cold
  obtain ⟨_, gr1⟩ := gr_bound (fr := r.flo) f3 h1 h2 hle e3
  obtain ⟨_, gr2⟩ := gr_bound (fr := r.fhi) f3 h1 h2 hle e4
  have hla : (LS r).getD k default = sumT r.stands (k + 1) := by unfold LS; rw [lossL_at hk]
  have hs69 : Sp0 69 [milV r (LS r), .agg [nn k, nn b, nn a]] (R.v (.agg [nn ((r.stands.getD k default).force - fcV r.width b a r.shi r.fhi), nn ((r.stands.getD k default).force - fcV r.width b a r.slo r.flo), nn 1, nn ((r.stands.getD k default).torque - fcV r.width b a r.shi r.fhi * (b - a)), nn ((r.stands.getD k default).torque - fcV r.width b a r.slo r.flo * (b - a)), nn 1, nn (gripV (r.stands.getD k default).rad b a r.flo), nn (gripV (r.stands.getD k default).rad b a r.fhi), nn 100, nn (warmV r.start a r.hlo (sumT r.stands (k + 1)).2 r.slo - r.cold * 100), nn (warmV r.start a r.hhi (sumT r.stands (k + 1)).1 r.shi - r.cold * 100), nn 100])) := by
    have := spec69 r (LS r) k b a hr hk (by unfold LS; rw [lossL_len]; exact hk) (los_ok hr) h1 h2 hle has
    simp only [marV, marL, mF, mT, mB, mC, List.getD_cons_zero, List.getD_cons_succ, hla] at this
    exact this
  rw [hm]
  refine spec_of mixed (fun _ _ _ h => h) Tryd.func101 (by decide +kernel) rfl (rs := _) rfl (by rfl) rfl (by simp [Tryd.f101]) (by decide +kernel) ?_; simp only [argsG, Nat.zero_add, Nat.reduceAdd]
  refine c_reg fun K hK => ?_
  simp (maxSteps := 2000000) only [vm, vr, q101, reduceIte, Nat.reduceEqDiff, Nat.reduceAdd, reduceCtorEq]
  refine need_by (by first | assumption | omega | (simp; done) | (simp; omega)) ?_
  refine need_by (by first | assumption | omega | (simp; done) | (simp; omega)) ?_
  (refine hK _ ?_; clear hK; clear K)
  refine c_draw fun K hK => ?_
  simp (maxSteps := 2000000) only [vm, vr, q101, reduceIte, Nat.reduceEqDiff, Nat.reduceAdd, Nat.reduceLeDiff, reduceCtorEq]
  (apply d_call (hs69); (case hf => rfl); (case hq => (simp (maxSteps := 2000000) only [vm, reduceIte, Nat.reduceEqDiff, reduceCtorEq]; rfl)); (case hvs => rfl))
  simp (maxSteps := 2000000) only [vm, vr, q101, Int.reduceLE, reduceIte, Nat.reduceEqDiff, Nat.reduceAdd, Nat.reduceLeDiff, Nat.reduceMul, reduceCtorEq]
  refine need_by (by first | assumption | omega | (simp; done) | (simp; omega)) ?_
  refine need_by (by first | assumption | omega | (simp; done) | (simp; omega)) ?_
  (refine draw_ok (by decide +kernel) (hK _ ?_); clear hK; clear K)
  refine c_draw fun K hK => ?_
  simp (maxSteps := 2000000) only [vm, vr, q101, td2, reduceIte, Nat.reduceEqDiff, Nat.reduceAdd, Nat.reduceLeDiff, reduceCtorEq]
  refine need_by (by first | assumption | omega | (simp; done) | (simp; omega)) ?_
  refine need_by (by first | assumption | omega | (simp; done) | (simp; omega)) ?_
  (refine draw_ok (by decide +kernel) (hK _ ?_); clear hK; clear K)
  refine c_ret1 ?_
  simp (maxSteps := 2000000) only [vm, q101, reduceIte, Nat.reduceEqDiff, Nat.reduceAdd, Nat.reduceLeDiff, reduceCtorEq]
  all_goals ((try simp (disch := omega) only [wr64]); first | done | exact kp2 (by omega) (by omega))
theorem marO_3 (r : PRules) (k : Nat) (b a : Int) (h : MHyp r k b a) : Sp0 101 [.agg [nn k, nn b, nn a], .ref [nn r.width, nn r.start, nn r.finish, nn r.hlo, nn r.hhi, nn r.cold, .sl (r.stands.map stdV), nn r.slo, nn r.shi, nn r.flo, nn r.fhi, .sl ((LS r).map p2)], .ref [nn 3]] (R.v (p2 (mar100 r k b a 3))) := by
  obtain ⟨b1, b2, b3, b4, b5, b6, b7, b8⟩ := mbounds h
  have hm := mar_3 (r := r) (k := k) (b := b) (a := a) h.hk
  obtain ⟨hr, hk, h1, h2, hle, has⟩ := h
  have hstd := hr.std k hk
  have f1 := hstd.force
  have f2 := hstd.torque
  have f3 := hstd.rad
  have e3 := hr.flo
  have e4 := hr.fhi
  have e7 := hr.cold
  obtain ⟨_, gr1⟩ := gr_bound (fr := r.flo) f3 h1 h2 hle e3
  obtain ⟨_, gr2⟩ := gr_bound (fr := r.fhi) f3 h1 h2 hle e4
  have hla : (LS r).getD k default = sumT r.stands (k + 1) := by unfold LS; rw [lossL_at hk]
  have hs69 : Sp0 69 [milV r (LS r), .agg [nn k, nn b, nn a]] (R.v (.agg [nn ((r.stands.getD k default).force - fcV r.width b a r.shi r.fhi), nn ((r.stands.getD k default).force - fcV r.width b a r.slo r.flo), nn 1, nn ((r.stands.getD k default).torque - fcV r.width b a r.shi r.fhi * (b - a)), nn ((r.stands.getD k default).torque - fcV r.width b a r.slo r.flo * (b - a)), nn 1, nn (gripV (r.stands.getD k default).rad b a r.flo), nn (gripV (r.stands.getD k default).rad b a r.fhi), nn 100, nn (warmV r.start a r.hlo (sumT r.stands (k + 1)).2 r.slo - r.cold * 100), nn (warmV r.start a r.hhi (sumT r.stands (k + 1)).1 r.shi - r.cold * 100), nn 100])) := by
    have := spec69 r (LS r) k b a hr hk (by unfold LS; rw [lossL_len]; exact hk) (los_ok hr) h1 h2 hle has
    simp only [marV, marL, mF, mT, mB, mC, List.getD_cons_zero, List.getD_cons_succ, hla] at this
    exact this
  rw [hm]
  refine spec_of mixed (fun _ _ _ h => h) Tryd.func101 (by decide +kernel) rfl (rs := _) rfl (by rfl) rfl (by simp [Tryd.f101]) (by decide +kernel) ?_; simp only [argsG, Nat.zero_add, Nat.reduceAdd]
  refine c_reg fun K hK => ?_
  simp (maxSteps := 2000000) only [vm, vr, q101, reduceIte, Nat.reduceEqDiff, Nat.reduceAdd, reduceCtorEq]
  refine need_by (by first | assumption | omega | (simp; done) | (simp; omega)) ?_
  refine need_by (by first | assumption | omega | (simp; done) | (simp; omega)) ?_
  (refine hK _ ?_; clear hK; clear K)
  refine c_draw fun K hK => ?_
  simp (maxSteps := 2000000) only [vm, vr, q101, reduceIte, Nat.reduceEqDiff, Nat.reduceAdd, Nat.reduceLeDiff, reduceCtorEq]
  (apply d_call (hs69); (case hf => rfl); (case hq => (simp (maxSteps := 2000000) only [vm, reduceIte, Nat.reduceEqDiff, reduceCtorEq]; rfl)); (case hvs => rfl))
  simp (maxSteps := 2000000) only [vm, vr, q101, Int.reduceLE, reduceIte, Nat.reduceEqDiff, Nat.reduceAdd, Nat.reduceLeDiff, Nat.reduceMul, reduceCtorEq]
  refine need_by (by first | assumption | omega | (simp; done) | (simp; omega)) ?_
  refine need_by (by first | assumption | omega | (simp; done) | (simp; omega)) ?_
  (refine draw_ok (by decide +kernel) (hK _ ?_); clear hK; clear K)
  refine c_draw fun K hK => ?_
  simp (maxSteps := 2000000) only [vm, vr, q101, td2, reduceIte, Nat.reduceEqDiff, Nat.reduceAdd, Nat.reduceLeDiff, reduceCtorEq]
  refine need_by (by first | assumption | omega | (simp; done) | (simp; omega)) ?_
  refine need_by (by first | assumption | omega | (simp; done) | (simp; omega)) ?_
  (refine draw_ok (by decide +kernel) (hK _ ?_); clear hK; clear K)
  refine c_ret1 ?_
  simp (maxSteps := 2000000) only [vm, q101, reduceIte, Nat.reduceEqDiff, Nat.reduceAdd, Nat.reduceLeDiff, reduceCtorEq]
  all_goals ((try simp (disch := omega) only [wr64]); first | done | exact kp2 (by omega) (by omega))
theorem spec101 (r : PRules) (k : Nat) (b a : Int) (j : Nat) (h : MHyp r k b a) (hj : j < 4) : Sp0 101 [.agg [nn k, nn b, nn a], .ref [nn r.width, nn r.start, nn r.finish, nn r.hlo, nn r.hhi, nn r.cold, .sl (r.stands.map stdV), nn r.slo, nn r.shi, nn r.flo, nn r.fhi, .sl ((LS r).map p2)], .ref [nn j]] (R.v (p2 (mar100 r k b a j))) := by
  match j, hj with
  | 0, _ => exact marO_0 r k b a h
  | 1, _ => exact marO_1 r k b a h
  | 2, _ => exact marO_2 r k b a h
  | 3, _ => exact marO_3 r k b a h
def marE (r : PRules) (s : PSched) (l : Int) : Int := firstV [(bothE r s).2, if withinV l 0 3 = true then 0 else 15]
theorem spec41 (r : PRules) (s : PSched) (l : Int) (hl : r.stands.length < 1000000) (hn : s.name.size < 1000000) (hs : s.ths.length < 1000000) (hE : marE r s l ≠ 0) : Sp0 41 [rulV r, schV s, nn l] (R.v2 (.sl []) (nn (marE r s l))) := by
  have k1 : (marE r s l != 0) = true := by simpa using hE
  have k2 : firstV [(bothE r s).2, if withinV l 0 3 = true then 0 else 15] = marE r s l := rfl
  by_cases hB : (bothE r s).2 = 0
  · obtain ⟨hr, hS⟩ := both_ok hB
    have k3 : firstV [0, if withinV l 0 3 = true then 0 else 15] = marE r s l := by rw [← k2, hB]
    refine spec_of mixed (fun _ _ _ h => h) Tryd.func41 (by decide +kernel) rfl (rs := _) rfl (by rfl) rfl (by simp [Tryd.f41]) (by decide +kernel) ?_; simp only [argsG, Nat.zero_add, Nat.reduceAdd]
    refine c_reg fun K hK => ?_
    simp (maxSteps := 2000000) only [vm, vr, reduceIte, Nat.reduceEqDiff, Nat.reduceAdd, reduceCtorEq]
    refine need_by (by first | assumption | omega | (simp; done) | (simp; omega)) ?_
    refine need_by (by first | assumption | omega | (simp; done) | (simp; omega)) ?_
    refine need_by (by first | assumption | omega | (simp; done) | (simp; omega)) ?_
    (refine hK _ ?_; clear hK; clear K)
    refine c_reg fun K hK => ?_
    simp (maxSteps := 2000000) only [vm, vr, q41, reduceIte, Nat.reduceEqDiff, Nat.reduceAdd, Nat.reduceLeDiff, reduceCtorEq]
    (apply s_callx (spec65w2 _ _ ?s11902x1 ?s11902x2 ?s11902x3 ?s11902x4 ?s11902x5 ?s11902x6); (case hf => rfl); (case hq => (simp (maxSteps := 2000000) only [vm, reduceIte, Nat.reduceEqDiff, reduceCtorEq]; rfl)); (case hvs => rfl); (case hL => (simp only [vm, R.toL, R1.toL, rcsToL, RC.toL, r1sToL, siteN, reduceIte, Nat.reduceAdd, Nat.reduceMul, reduceCtorEq]; rfl)); (case hfr => (simp (maxSteps := 2000000) only [vm, vr, reduceIte, Nat.reduceEqDiff, reduceCtorEq]; try rfl)); (case s11902x1 | s11902x2 => first | assumption | omega | (simp; done) | (simp; omega)); (case s11902x3 | s11902x4 => first | assumption | omega | (simp; done) | (simp; omega)); (case s11902x5 | s11902x6 => first | assumption | omega | (simp; done) | (simp; omega)))
    simp (maxSteps := 2000000) only [vm, vr, vp, q41, reduceIte, Nat.reduceEqDiff, Nat.reduceAdd, Nat.reduceLeDiff, reduceCtorEq]
    refine need_by (by first | assumption | omega | (simp; done) | (simp; omega)) ?_
    (refine hK _ ?_; clear hK; clear K)
    refine c_assoc ?_
    refine c_reg fun K hK => ?_
    simp (maxSteps := 2000000) only [vm, vr, q41, reduceIte, Nat.reduceEqDiff, Nat.reduceLeDiff, reduceCtorEq]
    (apply s_call (spec85 _ _ _); (case hf => rfl); (case hq => (simp (maxSteps := 2000000) only [vm, reduceIte, Nat.reduceEqDiff, reduceCtorEq]; rfl)); (case hvs => rfl))
    (apply s_call (spec63 _ _); (case hf => rfl); (case hq => (simp (maxSteps := 2000000) only [vm, vr, reduceIte, Nat.reduceEqDiff, reduceCtorEq]; rfl)); (case hvs => rfl))
    simp (maxSteps := 2000000) only [vm, vr, q41, reduceIte, Nat.reduceEqDiff, Nat.reduceAdd, Nat.reduceLeDiff, Nat.reduceMul, reduceCtorEq]
    refine need_by (by first | assumption | omega | (simp; done) | (simp; omega)) ?_
    (apply s_call (spec62w2 _ _); (case hf => rfl); (case hq => (simp (maxSteps := 2000000) only [vm, reduceIte, Nat.reduceEqDiff, reduceCtorEq]; rfl)); (case hvs => rfl))
    simp (maxSteps := 2000000) only [vm, vr, k3, reduceIte, Nat.reduceEqDiff, reduceCtorEq]
    (refine hK _ ?_; clear hK; clear K)
    refine c_assoc ?_
    refine c_reg fun K hK => ?_
    simp (maxSteps := 2000000) only [vm, vr, k1, reduceIte, Nat.reduceEqDiff, reduceCtorEq]
    (refine hK _ ?_; clear hK; clear K)
    refine c_if _ rfl (fun hb1 => ?_) (fun hb1 => ?_) <;> (have hp1 := hb1; try simp only [] at hp1)
    refine c_assoc ?_
    refine c_reg fun K hK => ?_
    simp (maxSteps := 2000000) only [vm, vr, reduceIte, Nat.reduceEqDiff, reduceCtorEq]
    (refine hK _ ?_; clear hK; clear K)
    refine c_ret ?_
    simp (maxSteps := 2000000) only [vm, vr, reduceIte, Nat.reduceEqDiff, reduceCtorEq]
    cases hb1
  · refine spec_of mixed (fun _ _ _ h => h) Tryd.func41 (by decide +kernel) rfl (rs := _) rfl (by rfl) rfl (by simp [Tryd.f41]) (by decide +kernel) ?_; simp only [argsG, Nat.zero_add, Nat.reduceAdd]
    refine c_reg fun K hK => ?_
    simp (maxSteps := 2000000) only [vm, vr, reduceIte, Nat.reduceEqDiff, Nat.reduceAdd, reduceCtorEq]
    refine need_by (by first | assumption | omega | (simp; done) | (simp; omega)) ?_
    refine need_by (by first | assumption | omega | (simp; done) | (simp; omega)) ?_
    refine need_by (by first | assumption | omega | (simp; done) | (simp; omega)) ?_
    (refine hK _ ?_; clear hK; clear K)
    refine c_reg fun K hK => ?_
    simp (maxSteps := 2000000) only [vm, vr, q41, reduceIte, Nat.reduceEqDiff, Nat.reduceAdd, Nat.reduceLeDiff, reduceCtorEq]
    (apply s_callx (spec65 _ _ ?s12101x1 ?s12101x2 ?s12101x3 ?s12101x4); (case hf => rfl); (case hq => (simp (maxSteps := 2000000) only [vm, reduceIte, Nat.reduceEqDiff, reduceCtorEq]; rfl)); (case hvs => rfl); (case hL => (simp only [vm, R.toL, R1.toL, RC.toL, r1sToL]; rfl)); (case hfr => (simp (maxSteps := 2000000) only [vr]; try rfl)); (case s12101x1 | s12101x2 => first | assumption | omega | (simp; done) | (simp; omega)); (case s12101x3 | s12101x4 => first | assumption | omega | (simp; done) | (simp; omega)))
    simp (maxSteps := 2000000) only [vm, vr, q41, reduceIte, Nat.reduceEqDiff, Nat.reduceAdd, Nat.reduceLeDiff, reduceCtorEq]
    refine need_by (by first | assumption | omega | (simp; done) | (simp; omega)) ?_
    (refine hK _ ?_; clear hK; clear K)
    refine c_assoc ?_
    refine c_reg fun K hK => ?_
    simp (maxSteps := 2000000) only [vm, vr, q41, reduceIte, Nat.reduceEqDiff, Nat.reduceLeDiff, reduceCtorEq]
    (apply s_call (spec85 _ _ _); (case hf => rfl); (case hq => (simp (maxSteps := 2000000) only [vm, reduceIte, Nat.reduceEqDiff, reduceCtorEq]; rfl)); (case hvs => rfl))
    (apply s_call (spec63 _ _); (case hf => rfl); (case hq => (simp (maxSteps := 2000000) only [vm, vr, reduceIte, Nat.reduceEqDiff, reduceCtorEq]; rfl)); (case hvs => rfl))
    simp (maxSteps := 2000000) only [vm, vr, q41, reduceIte, Nat.reduceEqDiff, Nat.reduceAdd, Nat.reduceLeDiff, Nat.reduceMul, reduceCtorEq]
    refine need_by (by first | assumption | omega | (simp; done) | (simp; omega)) ?_
    (apply s_call (spec62w2 _ _); (case hf => rfl); (case hq => (simp (maxSteps := 2000000) only [vm, reduceIte, Nat.reduceEqDiff, reduceCtorEq]; rfl)); (case hvs => rfl))
    simp (maxSteps := 2000000) only [vm, vr, k2, reduceIte, Nat.reduceEqDiff, reduceCtorEq]
    (refine hK _ ?_; clear hK; clear K)
    refine c_assoc ?_
    refine c_reg fun K hK => ?_
    simp (maxSteps := 2000000) only [vm, vr, k1, reduceIte, Nat.reduceEqDiff, reduceCtorEq]
    (refine hK _ ?_; clear hK; clear K)
    refine c_if _ rfl (fun hb1 => ?_) (fun hb1 => ?_) <;> (have hp1 := hb1; try simp only [] at hp1)
    refine c_assoc ?_
    refine c_reg fun K hK => ?_
    simp (maxSteps := 2000000) only [vm, vr, reduceIte, Nat.reduceEqDiff, reduceCtorEq]
    (refine hK _ ?_; clear hK; clear K)
    refine c_ret ?_
    simp (maxSteps := 2000000) only [vm, vr, reduceIte, Nat.reduceEqDiff, reduceCtorEq]
    cases hb1
theorem spec41w2 (r : PRules) (s : PSched) (j : Nat) (hl : r.stands.length < 1000000) (hn : s.name.size < 1000000) (hs : s.ths.length < 1000000) (hj : j < 4) (hB : (bothE r s).2 = 0) (hr : RulOk r) (hS : SchOk r s) : Sp0 41 [rulV r, schV s, nn j] (R.v2 (.sl (((List.range s.ths.length).map fun k => m100 r s k j).map p2)) (nn 0)) := by
  have kw : withinV j 0 3 = true := wi2.2 ⟨by omega, by omega⟩
  have k3 : firstV [0, if withinV j 0 3 = true then 0 else 15] = 0 := by rw [kw]; rfl
  have hs100 := spec100g (drs r s s.ths.length) 101 [] [.ref [nn r.width, nn r.start, nn r.finish, nn r.hlo, nn r.hhi, nn r.cold, .sl (r.stands.map stdV), nn r.slo, nn r.shi, nn r.flo, nn r.fhi, .sl ((LS r).map p2)], .ref [nn j]] (marF r j) (by rw [drs_len]; exact hs) fun k hk => by
    rw [drs_len] at hk
    rw [drs_at hk, marF_at]
    exact spec101 r k (befV r s k) (s.ths.getD k 0) j (mh_of hr hS hk) hj
  have ke : (drs r s s.ths.length).map (marF r j) = (List.range s.ths.length).map fun k => m100 r s k j := by
    unfold drs; rw [List.map_map]; exact List.map_congr_left fun k _ => marF_at
  refine spec_of mixed (fun _ _ _ h => h) Tryd.func41 (by decide +kernel) rfl (rs := _) rfl (by rfl) rfl (by simp [Tryd.f41]) (by decide +kernel) ?_; simp only [argsG, Nat.zero_add, Nat.reduceAdd]
  refine c_reg fun K hK => ?_
  simp (maxSteps := 2000000) only [vm, vr, reduceIte, Nat.reduceEqDiff, Nat.reduceAdd, reduceCtorEq]
  refine need_by (by first | assumption | omega | (simp; done) | (simp; omega)) ?_
  refine need_by (by first | assumption | omega | (simp; done) | (simp; omega)) ?_
  refine need_by (by first | assumption | omega | (simp; done) | (simp; omega)) ?_
  (refine hK _ ?_; clear hK; clear K)
  refine c_reg fun K hK => ?_
  simp (maxSteps := 2000000) only [vm, vr, q41, reduceIte, Nat.reduceEqDiff, Nat.reduceAdd, Nat.reduceLeDiff, reduceCtorEq]
  (apply s_callx (spec65w2 _ _ ?s13202x1 ?s13202x2 ?s13202x3 ?s13202x4 ?s13202x5 ?s13202x6); (case hf => rfl); (case hq => (simp (maxSteps := 2000000) only [vm, reduceIte, Nat.reduceEqDiff, reduceCtorEq]; rfl)); (case hvs => rfl); (case hL => (simp only [vm, R.toL, R1.toL, rcsToL, RC.toL, r1sToL, siteN, reduceIte, Nat.reduceAdd, Nat.reduceMul, reduceCtorEq]; rfl)); (case hfr => (simp (maxSteps := 2000000) only [vm, vr, reduceIte, Nat.reduceEqDiff, reduceCtorEq]; try rfl)); (case s13202x1 | s13202x2 => first | assumption | omega | (simp; done) | (simp; omega)); (case s13202x3 | s13202x4 => first | assumption | omega | (simp; done) | (simp; omega)); (case s13202x5 | s13202x6 => first | assumption | omega | (simp; done) | (simp; omega)))
  simp (maxSteps := 2000000) only [vm, vr, vp, q41, reduceIte, Nat.reduceEqDiff, Nat.reduceAdd, Nat.reduceLeDiff, reduceCtorEq]
  refine need_by (by first | assumption | omega | (simp; done) | (simp; omega)) ?_
  (refine hK _ ?_; clear hK; clear K)
  refine c_assoc ?_
  refine c_reg fun K hK => ?_
  simp (maxSteps := 2000000) only [vm, vr, q41, reduceIte, Nat.reduceEqDiff, Nat.reduceLeDiff, reduceCtorEq]
  (apply s_call (spec85 _ _ _); (case hf => rfl); (case hq => (simp (maxSteps := 2000000) only [vm, reduceIte, Nat.reduceEqDiff, reduceCtorEq]; rfl)); (case hvs => rfl))
  (apply s_call (spec63 _ _); (case hf => rfl); (case hq => (simp (maxSteps := 2000000) only [vm, vr, reduceIte, Nat.reduceEqDiff, reduceCtorEq]; rfl)); (case hvs => rfl))
  simp (maxSteps := 2000000) only [vm, vr, q41, reduceIte, Nat.reduceEqDiff, Nat.reduceAdd, Nat.reduceLeDiff, Nat.reduceMul, reduceCtorEq]
  refine need_by (by first | assumption | omega | (simp; done) | (simp; omega)) ?_
  (apply s_call (spec62w2 _ _); (case hf => rfl); (case hq => (simp (maxSteps := 2000000) only [vm, reduceIte, Nat.reduceEqDiff, reduceCtorEq]; rfl)); (case hvs => rfl))
  simp (maxSteps := 2000000) only [vm, vr, k3, reduceIte, Nat.reduceEqDiff, reduceCtorEq]
  (refine hK _ ?_; clear hK; clear K)
  refine c_assoc ?_
  refine c_reg fun K hK => ?_
  simp (maxSteps := 2000000) only [vm, vr, bne_self_eq_false, reduceIte, Nat.reduceEqDiff, reduceCtorEq]
  (refine hK _ ?_; clear hK; clear K)
  refine c_if _ rfl (fun hb1 => ?_) (fun hb1 => ?_) <;> (have hp1 := hb1; try simp only [] at hp1)
  cases hb1
  refine c_skip ?_
  refine c_reg fun K hK => ?_
  simp (maxSteps := 2000000) only [vm, vr, reduceIte, Nat.reduceEqDiff, Nat.reduceAdd, reduceCtorEq]
  (apply s_call (hs100); (case hf => rfl); (case hq => (simp (maxSteps := 2000000) only [vm, reduceIte, Nat.reduceEqDiff, reduceCtorEq]; rfl)); (case hvs => rfl))
  simp (maxSteps := 2000000) only [vm, vr, reduceIte, Nat.reduceEqDiff, reduceCtorEq]
  (refine hK _ ?_; clear hK; clear K)
  refine c_ret1 ?_
  simp (maxSteps := 2000000) only [vm, vr, reduceIte, Nat.reduceEqDiff, reduceCtorEq]
  all_goals (rw [ke])
end Go.Vm
