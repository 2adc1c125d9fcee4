import Derived.Test.YtaoocondfgkpnaaGreatDoorVmBC
import Derived.Test.YtaoocondfgkpnaaGreatDoorWpN
import Derived.Test.YtaoocondfgkpnaaGreatDoorWpV
set_option linter.all false
namespace Go.Vm
open Go.Proofs
set_option maxRecDepth 20000
set_option maxHeartbeats 8000000
--DEF MIL = nn r.width, nn r.start, nn r.finish, nn r.hlo, nn r.hhi, nn r.cold, .sl (r.stands.map stdV), nn r.slo, nn r.shi, nn r.flo, nn r.fhi, .sl (ls.map p2)
theorem spec65 (lo hi : Int) (h1 : -1000000000000000000 ≤ lo ∧ lo ≤ 1000000000000000000) (h2 : -1000000000000000000 ≤ hi ∧ hi ≤ 1000000000000000000) : Sp0 65 [.agg [nn lo, nn hi, nn 100]] (R.v (p4 (lowV lo 100, lowV hi 100))) := by
  refine spec_of mixed (fun _ _ _ h => h) Tryz.func65 (by decide +kernel) rfl (rs := _) rfl (by rfl) rfl (by simp [Tryz.f65]) (by decide +kernel) ?_; simp only [argsG]
  refine c_reg fun K hK => ?_
  simp (maxSteps := 2000000) only [vm, vr, q65, reduceIte, Nat.reduceEqDiff, Nat.reduceAdd, reduceCtorEq]
  refine need_by (by first | assumption | omega | (simp; done) | (simp; omega)) ?_
  refine need_by (by first | assumption | omega | (simp; done) | (simp; omega)) ?_
  (refine hK _ ?_; clear hK; clear K)
  refine c_draw fun K hK => ?_
  simp (maxSteps := 2000000) only [vm, vr, q65, reduceIte, Nat.reduceEqDiff, Nat.reduceAdd, Nat.reduceLeDiff, reduceCtorEq]
  (apply d_call (spec47 _ _ ?s1301x1 ?s1301x2 ?s1301x3 ?s1301x4); (case hf => rfl); (case hq => (simp (maxSteps := 2000000) only [vm, reduceIte, Nat.reduceEqDiff, reduceCtorEq]; rfl)); (case hvs => rfl); (case s1301x1 | s1301x2 | s1301x3 | s1301x4 => first | assumption | omega | (simp; done) | (simp; omega)))
  simp (maxSteps := 2000000) only [vm, vr, q65, reduceIte, Nat.reduceEqDiff, Nat.reduceAdd, Nat.reduceLeDiff, reduceCtorEq]
  (apply d_call (spec47 _ _ ?s1302x1 ?s1302x2 ?s1302x3 ?s1302x4); (case hf => rfl); (case hq => (simp (maxSteps := 2000000) only [vm, reduceIte, Nat.reduceEqDiff, reduceCtorEq]; rfl)); (case hvs => rfl); (case s1302x1 | s1302x2 | s1302x3 | s1302x4 => first | assumption | omega | (simp; done) | (simp; omega)))
  simp (maxSteps := 2000000) only [vm, vr, q65, reduceIte, Nat.reduceEqDiff, Nat.reduceAdd, Nat.reduceLeDiff, reduceCtorEq]
  (refine draw_ok (by decide +kernel) (hK _ ?_); clear hK; clear K)
  refine c_ret1 ?_
  simp (maxSteps := 2000000) only [vm, q65, reduceIte, Nat.reduceEqDiff, Nat.reduceAdd, Nat.reduceLeDiff, reduceCtorEq]
def heaF (r : PRules) (ls : List (Int × Int)) (d : D3) : (Int × Int) × (Int × Int) := (lowV (warmV r.start d.2.2 r.hlo (ls.getD d.1.toNat default).2 r.slo) 100, lowV (warmV r.start d.2.2 r.hhi (ls.getD d.1.toNat default).1 r.shi) 100)
theorem spec63 (r : PRules) (ls : List (Int × Int)) (k : Nat) (b a : Int) (hr : RulOk r) (hk : k < ls.length) (hl : ∀ i, i < ls.length → (0 ≤ (ls.getD i default).1 ∧ (ls.getD i default).1 ≤ 6000) ∧ (0 ≤ (ls.getD i default).2 ∧ (ls.getD i default).2 ≤ 6000)) (h2 : 1 ≤ a ∧ a ≤ 1000) (hle : a ≤ r.start) : Sp0 63 [.agg [nn k, nn b, nn a], .ref [nn r.width, nn r.start, nn r.finish, nn r.hlo, nn r.hhi, nn r.cold, .sl (r.stands.map stdV), nn r.slo, nn r.shi, nn r.flo, nn r.fhi, .sl (ls.map p2)]] (R.v (p4 (heaF r ls (k, b, a)))) := by
  have e1 := hr.slo
  have e2 := hr.shi
  have e3 := hr.hlo
  have e4 := hr.hhi
  have e8 := hr.start
  have g1 : 0 ≤ r.slo ∧ r.slo ≤ 100 := by omega
  have g2 : 0 ≤ r.shi ∧ r.shi ≤ 100 := by omega
  obtain ⟨l1, l2⟩ := hl k hk
  obtain ⟨_, w1⟩ := wm_bound (st := r.slo) (heat := r.hlo) e8 h2 hle e3 l2 g1
  obtain ⟨_, w2⟩ := wm_bound (st := r.shi) (heat := r.hhi) e8 h2 hle e4 l1 g2
  refine spec_of mixed (fun _ _ _ h => h) Tryz.func63 (by decide +kernel) rfl (rs := _) rfl (by rfl) rfl (by simp [Tryz.f63]) (by decide +kernel) ?_; simp only [argsG, Nat.zero_add]
  refine c_reg fun K hK => ?_
  simp (maxSteps := 2000000) only [vm, vr, q63, reduceIte, Nat.reduceEqDiff, Nat.reduceAdd, reduceCtorEq]
  refine need_by (by first | assumption | omega | (simp; done) | (simp; omega)) ?_
  refine need_by (by first | assumption | omega | (simp; done) | (simp; omega)) ?_
  (refine hK _ ?_; clear hK; clear K)
  refine c_reg fun K hK => ?_
  simp (maxSteps := 2000000) only [vm, vr, q63, reduceIte, Nat.reduceEqDiff, Nat.reduceAdd, Nat.reduceLeDiff, reduceCtorEq]
  (apply s_call (spec64 _ _ _ _ _ ?s2701x1 ?s2701x2 ?s2701x3 ?s2701x4 ?s2701x5); (case hf => rfl); (case hq => (simp (maxSteps := 2000000) only [vm, reduceIte, Nat.reduceEqDiff, reduceCtorEq]; rfl)); (case hvs => rfl); (case s2701x1 | s2701x2 | s2701x3 | s2701x4 | s2701x5 => first | assumption | omega | (simp; done) | (simp; omega)))
  simp (maxSteps := 2000000) only [vm, vr, q63, reduceIte, Nat.reduceEqDiff, Nat.reduceAdd, Nat.reduceLeDiff, reduceCtorEq]
  (apply s_call (spec65 _ _ ?s2702x1 ?s2702x2); (case hf => rfl); (case hq => (simp (maxSteps := 2000000) only [vm, reduceIte, Nat.reduceEqDiff, reduceCtorEq]; rfl)); (case hvs => rfl); (case s2702x1 | s2702x2 => first | assumption | omega | (simp; done) | (simp; omega)))
  simp (maxSteps := 2000000) only [vm, vr, q63, reduceIte, Nat.reduceEqDiff, Nat.reduceAdd, Nat.reduceLeDiff, reduceCtorEq]
  (refine hK _ ?_; clear hK; clear K)
  refine c_ret1 ?_
  simp (maxSteps := 2000000) only [vm, q63, reduceIte, Nat.reduceEqDiff, Nat.reduceAdd, Nat.reduceLeDiff, reduceCtorEq]
  rfl
theorem spec22 (r : PRules) (s : PSched) (hl : r.stands.length < 1000000) (hn : s.name.size < 1000000) (hs : s.ths.length < 1000000) (hE : (bothE r s).2 ≠ 0) : Sp0 22 [rulV r, schV s] (R.v2 (.sl []) (nn (bothE r s).2)) := by
  have k1 : ((bothE r s).2 != 0) = true := by simpa using hE
  refine spec_of mixed (fun _ _ _ h => h) Tryz.func22 (by decide +kernel) rfl (rs := _) rfl (by rfl) rfl (by simp [Tryz.f22]) (by decide +kernel) ?_; simp only [argsG, Nat.zero_add]
  refine c_reg fun K hK => ?_
  simp (maxSteps := 2000000) only [vm, vr, reduceIte, Nat.reduceEqDiff, Nat.reduceAdd, reduceCtorEq]
  refine need_by (by first | assumption | omega | (simp; done) | (simp; omega)) ?_
  refine need_by (by first | assumption | omega | (simp; done) | (simp; omega)) ?_
  (refine hK _ ?_; clear hK; clear K)
  refine c_reg fun K hK => ?_
  simp (maxSteps := 2000000) only [vm, vr, q22, reduceIte, Nat.reduceEqDiff, Nat.reduceAdd, Nat.reduceLeDiff, reduceCtorEq]
  (apply s_callx (spec41 _ _ ?s3101x1 ?s3101x2 ?s3101x3 ?s3101x4); (case hf => rfl); (case hq => (simp (maxSteps := 2000000) only [vm, reduceIte, Nat.reduceEqDiff, reduceCtorEq]; rfl)); (case hvs => rfl); (case hL => (simp only [vm, R.toL, R1.toL, RC.toL, r1sToL]; rfl)); (case hfr => (simp (maxSteps := 2000000) only [vr]; try rfl)); (case s3101x1 | s3101x2 | s3101x3 | s3101x4 => first | assumption | omega | (simp; done) | (simp; omega)))
  simp (maxSteps := 2000000) only [vm, vr, q22, reduceIte, Nat.reduceEqDiff, Nat.reduceAdd, Nat.reduceLeDiff, reduceCtorEq]
  refine need_by (by first | assumption | omega | (simp; done) | (simp; omega)) ?_
  (refine hK _ ?_; clear hK; clear K)
  refine c_assoc ?_
  refine c_reg fun K hK => ?_
  simp (maxSteps := 2000000) only [vm, vr, k1, reduceIte, Nat.reduceEqDiff, reduceCtorEq]
  (refine hK _ ?_; clear hK; clear K)
  refine c_if _ rfl (fun hb1 => ?_) (fun hb1 => ?_) <;> (have hp1 := hb1; try simp only [] at hp1)
  refine c_assoc ?_
  refine c_reg fun K hK => ?_
  simp (maxSteps := 2000000) only [vm, vr, reduceIte, Nat.reduceEqDiff, reduceCtorEq]
  (refine hK _ ?_; clear hK; clear K)
  refine c_ret ?_
  simp (maxSteps := 2000000) only [vm, vr, reduceIte, Nat.reduceEqDiff, reduceCtorEq]
  cases hb1
def heaL (r : PRules) (s : PSched) : List ((Int × Int) × (Int × Int)) := (drs r s s.ths.length).map (heaF r (LS r))
theorem spec22w2 (r : PRules) (s : PSched) (hl : r.stands.length < 1000000) (hn : s.name.size < 1000000) (hs : s.ths.length < 1000000) (hE : (bothE r s).2 = 0) (hr : RulOk r) (hS : SchOk r s) : Sp0 22 [rulV r, schV s] (R.v2 (.sl ((heaL r s).map p4)) (nn 0)) := by
  have hlen := hS.len
  have hs62 := spec62g (drs r s s.ths.length) 63 [] [.ref [nn r.width, nn r.start, nn r.finish, nn r.hlo, nn r.hhi, nn r.cold, .sl (r.stands.map stdV), nn r.slo, nn r.shi, nn r.flo, nn r.fhi, .sl ((LS r).map p2)]] (heaF r (LS r)) (by rw [drs_len]; exact hs) fun k hk => by
    rw [drs_len] at hk
    rw [drs_at hk]
    have hd := dr_ok hr hS hk
    have := spec63 r (LS r) k (befV r s k) (s.ths.getD k 0) hr (by unfold LS; rw [lossL_len]; omega) (los_ok hr) hd.a (th_start hS hk)
    exact this
  refine spec_of mixed (fun _ _ _ h => h) Tryz.func22 (by decide +kernel) rfl (rs := _) rfl (by rfl) rfl (by simp [Tryz.f22]) (by decide +kernel) ?_; simp only [argsG, Nat.zero_add]
  refine c_reg fun K hK => ?_
  simp (maxSteps := 2000000) only [vm, vr, reduceIte, Nat.reduceEqDiff, Nat.reduceAdd, reduceCtorEq]
  refine need_by (by first | assumption | omega | (simp; done) | (simp; omega)) ?_
  refine need_by (by first | assumption | omega | (simp; done) | (simp; omega)) ?_
  (refine hK _ ?_; clear hK; clear K)
  refine c_reg fun K hK => ?_
  simp (maxSteps := 2000000) only [vm, vr, q22, reduceIte, Nat.reduceEqDiff, Nat.reduceAdd, Nat.reduceLeDiff, reduceCtorEq]
  (apply s_callx (spec41w2 _ _ ?s4202x1 ?s4202x2 ?s4202x3 ?s4202x4 ?s4202x5 ?s4202x6); (case hf => rfl); (case hq => (simp (maxSteps := 2000000) only [vm, reduceIte, Nat.reduceEqDiff, reduceCtorEq]; rfl)); (case hvs => rfl); (case hL => (simp only [vm, R.toL, R1.toL, rcsToL, RC.toL, r1sToL, siteN, reduceIte, Nat.reduceAdd, Nat.reduceMul, reduceCtorEq]; rfl)); (case hfr => (simp (maxSteps := 2000000) only [vm, vr, reduceIte, Nat.reduceEqDiff, reduceCtorEq]; try rfl)); (case s4202x1 | s4202x2 | s4202x3 | s4202x4 | s4202x5 | s4202x6 => first | assumption | omega | (simp; done) | (simp; omega)))
  simp (maxSteps := 2000000) only [vm, vr, vp, q22, reduceIte, Nat.reduceEqDiff, Nat.reduceAdd, Nat.reduceLeDiff, reduceCtorEq]
  refine need_by (by first | assumption | omega | (simp; done) | (simp; omega)) ?_
  (refine hK _ ?_; clear hK; clear K)
  refine c_assoc ?_
  refine c_reg fun K hK => ?_
  simp (maxSteps := 2000000) only [vm, vr, bne_self_eq_false, reduceIte, Nat.reduceEqDiff, reduceCtorEq]
  (refine hK _ ?_; clear hK; clear K)
  refine c_if _ rfl (fun hb1 => ?_) (fun hb1 => ?_) <;> (have hp1 := hb1; try simp only [] at hp1)
  cases hb1
  refine c_skip ?_
  refine c_reg fun K hK => ?_
  simp (maxSteps := 2000000) only [vm, vr, reduceIte, Nat.reduceEqDiff, Nat.reduceAdd, reduceCtorEq]
  (apply s_call (hs62); (case hf => rfl); (case hq => (simp (maxSteps := 2000000) only [vm, reduceIte, Nat.reduceEqDiff, reduceCtorEq]; rfl)); (case hvs => rfl))
  simp (maxSteps := 2000000) only [vm, vr, reduceIte, Nat.reduceEqDiff, reduceCtorEq]
  (refine hK _ ?_; clear hK; clear K)
  refine c_ret1 ?_
  simp (maxSteps := 2000000) only [vm, vr, reduceIte, Nat.reduceEqDiff, reduceCtorEq]
  rfl
end Go.Vm
