import Derived.Test.YtafnpnopefamkaaVmBC
import Derived.Test.YtafnpnopefamkaaVpX2
set_option linter.all false
namespace Go.Vm
open Go.Proofs
set_option maxRecDepth 20000
set_option maxHeartbeats 8000000
theorem spec101 (xs : List Int) (b : Int) (hl : xs.length < 1000000) : Sp0 101 [.agg [.sl (xs.map nn), nn b]] (R.v (.sl ((rgV (xs, xs) xs.length).map p2))) := by
 refine spec_of mixed (fun _ _ _ h => h) Try.func101 (by decide +kernel) rfl (rs := _) rfl (by rfl) rfl (by simp [Try.f101]) (by decide +kernel) ?_; simp only [argsG]
 refine c_reg fun K hK => ?_
 simp only [vx, reduceIte, Nat.reduceAdd]
 refine nb ?_
 apply hK; clear hK K
 refine c_reg fun K hK => ?_
 simp only [vx]
 apply hK; clear hK K
 refine c_assoc ?_
 refine c_reg fun K hK => ?_
 simp only [vx]
 apply hK; clear hK K
 refine c_block ?_
 refine vcode_loop (fun i : Nat => [(1, L.own 1 0), (2, L.nilS), (3, L.arr 25 0), (4, L.p (nn i))]) (fun i => [(Key.a 25, M.arr 0 26 2 (List.map p2 (rgV (xs, xs) i))), (Key.b 1, M.box 2), (Key.c 1 0, M.cell (L.p (V.sl (List.map nn xs)))), (Key.c 1 1, M.cell (L.p (nn b)))]) (fun i => i ≤ xs.length) (fun i => xs.length - i) 0 (Nat.zero_le _) ?_ ?_
 ·
  (simp only [vm, vmk, reduceIte, Nat.reduceEqDiff, Nat.reduceAdd, Nat.reduceLT, reduceCtorEq]; try simp (disch := omega) only [wr64]; try omega)
  exact ⟨Or.inr trivial, rfl⟩
 ·
  rintro i hi
  have hlen := rgV_len (x := (xs, xs)) (n := i)
  rcases Nat.lt_or_ge i xs.length with hil | hil
  ·
   have hk : decide ((i : Int) < xs.length) = true := by simpa using hil
   refine c_assoc ?_
   refine c_reg fun K hK => ?_
   simp only [vx, q101, hk, reduceIte, Nat.reduceEqDiff, Nat.reduceLeDiff, reduceCtorEq]
   apply hK; clear hK K
   refine c_if _ rfl (fun hb1 => ?_) (fun hb1 => ?_)
   refine c_skip ?_
   refine c_block ?_
   refine c_draw1 fun K hK => ?_
   simp only [vx, vp, q101, reduceIte, Nat.reduceEqDiff, Nat.reduceAdd, Nat.reduceLeDiff, Nat.reduceMul, Nat.reduceLT, reduceCtorEq]
   (refine atI_map 0 (by first | assumption | omega | (simp <;> omega)) (by first | assumption | omega | (simp <;> omega)) ?_; simp only [vx, q101, reduceIte, Nat.reduceAdd, Nat.reduceLeDiff, reduceCtorEq])
   (refine atI_map 0 (by first | assumption | omega | (simp <;> omega)) (by first | assumption | omega | (simp <;> omega)) ?_; simp only [vx, vp, q101, reduceIte, Nat.reduceEqDiff, Nat.reduceAdd, reduceCtorEq])
   refine nb ?_
   refine nb ?_
   (refine draw_ok (by decide +kernel) (hK _ ?_); clear hK; clear K)
   simp only [thenV_n, blockV_n]
   refine c_reg1 fun K hK => ?_
   simp only [vx, reduceIte, Nat.reduceEqDiff]
   (simp (disch := omega) only [wr64]; try simp only [vx, vt, vp, q101, hk, hb1, Int.reduceBNe, Int.reduceBEq, Int.reduceLT, Int.reduceLE, Int.reduceGT, Int.reduceGE, decide_true, decide_false, bne_self_eq_false, beq_self_eq_true, reduceIte, Nat.reduceEqDiff, Nat.reduceAdd, Nat.reduceLeDiff, Nat.reduceMul, Nat.reduceLT, reduceCtorEq])
   apply hK; clear hK K
   simp only [thenV_n]
   rotate_left
   cases hb1
   refine ⟨i + 1, ?_, by omega, by omega⟩
   rw [rgV_succ]
   (simp only [vm, vmk, reduceIte, Nat.reduceEqDiff, Nat.reduceAdd, Nat.reduceLT, reduceCtorEq]; try simp (disch := omega) only [wr64]; try omega)
   rfl
  ·
   have hie : i = xs.length := by omega
   subst hie
   have hk : decide ((xs.length : Int) < xs.length) = false := by simp
   refine c_assoc ?_
   refine c_reg fun K hK => ?_
   simp only [vx, q101, hk, reduceIte, Nat.reduceEqDiff, Nat.reduceLeDiff, reduceCtorEq]
   apply hK; clear hK K
   refine c_if _ rfl (fun hb1 => ?_) (fun hb1 => ?_)
   cases hb1
   refine c_exit ?_
   simp only [thenV_n, thenV_e, blockV_e, reduceIte]
   refine c_reg fun K hK => ?_
   simp only [vx, reduceIte, Nat.reduceEqDiff]
   apply hK; clear hK K
   refine c_ret1 ?_
   simp only [vx, reduceIte, Nat.reduceEqDiff, reduceCtorEq]
theorem rgV_get {x : List Int × List Int} {n i : Nat} (h : i < n) : (rgV x n).getD i default = (x.1.getD i 0, x.2.getD i 0) := by simp [rgV, List.getD, h]
theorem spec102 (ps : List (Int × Int)) (mix lo hi0 b set : Int) (n : Nat) (x : List Int × List Int) (h : TabOk ps) (hm : 0 ≤ mix ∧ mix ≤ 50) (hlo : 0 ≤ lo ∧ lo ≤ 1000) (hhi : 0 ≤ hi0 ∧ hi0 ≤ 1000) (hb : 0 ≤ b ∧ b ≤ 1000) (hs : 0 ≤ set ∧ set ≤ 20000) (h2 : 2 ≤ n ∧ n ≤ 8) (hx : EncI n x) : Sp0 102 [.agg [.sl (ps.map p2), nn mix, nn lo, nn hi0], nn b, .sl ((rgV x n).map p2), nn set] (R.v (.sl ((rgV (encStep ps mix lo hi0 b set x) n).map p2))) := by
 have hlen := rgV_len (x := x) (n := n)
 have lx1 := hx.len
 have lx2 : x.2.length = n := by rw [hx.le.1]; exact lx1
 refine spec_of mixed (fun _ _ _ h => h) Try.func102 (by decide +kernel) rfl (rs := _) rfl (by rfl) rfl (by simp [Try.f102]) (by decide +kernel) ?_; simp only [argsG, Nat.zero_add, Nat.reduceAdd]
 refine c_reg fun K hK => ?_
 simp only [vx, reduceIte, Nat.reduceAdd, reduceCtorEq]
 refine nb ?_
 apply hK; clear hK K
 refine c_reg fun K hK => ?_
 simp only [vx]
 apply hK; clear hK K
 refine c_assoc ?_
 refine c_reg fun K hK => ?_
 simp only [vx]
 apply hK; clear hK K
 refine c_block ?_
 refine vcode_loop (fun i : Nat => [(1, L.p (nn b)), (2, L.p (V.sl (List.map p2 (rgV x n)))), (3, L.p (nn set)), (4, L.own 4 0), (8, L.nilS), (9, L.arr 30 0), (10, L.arr 38 0), (11, L.p (nn i))]) (fun i => [(Key.a 30, M.arr 0 3 1 (List.map nn (x.1.take i))), (Key.a 38, M.arr 0 3 1 (List.map nn (x.2.take i))), (Key.b 4, M.box 4), (Key.c 4 0, M.cell (L.p (V.sl (List.map p2 ps)))), (Key.c 4 1, M.cell (L.p (nn mix))), (Key.c 4 2, M.cell (L.p (nn lo))), (Key.c 4 3, M.cell (L.p (nn hi0)))]) (fun i => i ≤ n) (fun i => n - i) 0 (Nat.zero_le _) ?_ ?_
 ·
  (simp only [vx, vmk, reduceIte, Nat.reduceEqDiff, Nat.reduceAdd, Nat.reduceLT, reduceCtorEq]; try simp (disch := omega) only [wr64]; try omega)
  exact Or.inr trivial
 ·
  rintro i hi
  have ht1 : (x.1.take i).length = min i x.1.length := List.length_take
  have ht2 : (x.2.take i).length = min i x.2.length := List.length_take
  rcases Nat.lt_or_ge i n with hil | hil
  ·
   have hk : decide ((i : Int) < n) = true := by simpa using hil
   have hg := rgV_get (x := x) hil
   refine c_assoc ?_
   refine c_reg fun K hK => ?_
   simp only [vx, q102, hlen, hk, reduceIte, Nat.reduceEqDiff]
   apply hK; clear hK K
   refine c_if _ rfl (fun hb1 => ?_) (fun hb1 => ?_)
   refine c_skip ?_
   refine c_block ?_
   refine c_draw1 fun K hK => ?_
   simp only [vx, vp, q102, reduceIte, Nat.reduceEqDiff, Nat.reduceAdd, Nat.reduceLeDiff, Nat.reduceMul, reduceCtorEq]
   (refine atI_map default (by first | assumption | omega | (simp <;> omega)) (by first | assumption | omega | (simp <;> omega)) ?_; simp only [vx, vp, q102, hg, reduceIte, Nat.reduceEqDiff, Nat.reduceAdd, reduceCtorEq])
   refine nb ?_
   refine nb ?_
   (refine atI_map default (by first | assumption | omega | (simp <;> omega)) (by first | assumption | omega | (simp <;> omega)) ?_; simp only [vx, vp, q102, hg, reduceIte, Nat.reduceEqDiff, Nat.reduceAdd, reduceCtorEq])
   refine nb ?_
   refine nb ?_
   (refine draw_ok (by decide +kernel) (hK _ ?_); clear hK; clear K)
   simp only [thenV_n, blockV_n]
   refine c_reg1 fun K hK => ?_
   simp only [vx, reduceIte, Nat.reduceEqDiff]
   (simp (disch := omega) only [wr64]; try simp only [vx, vt, vp, q102, hlen, hk, hg, hb, hb1, Int.reduceBNe, Int.reduceBEq, Int.reduceLT, Int.reduceLE, Int.reduceGT, Int.reduceGE, decide_true, decide_false, bne_self_eq_false, beq_self_eq_true, reduceIte, Nat.reduceEqDiff, Nat.reduceAdd, Nat.reduceLeDiff, Nat.reduceMul, Nat.reduceLT, reduceCtorEq])
   apply hK; clear hK K
   simp only [thenV_n]
   rotate_left
   cases hb1
   refine ⟨i + 1, ?_, by omega, by omega⟩
   rw [takeS 0 (by omega), takeS 0 (by omega)]
   (simp only [vm, vmk, reduceIte, Nat.reduceEqDiff, Nat.reduceAdd, Nat.reduceLT, reduceCtorEq]; try simp (disch := omega) only [wr64]; try omega)
   rfl
  ·
   have hie : i = n := by omega
   subst hie
   have hk : decide ((i : Int) < i) = false := by simp
   rw [List.take_of_length_le (by omega), List.take_of_length_le (by omega)]
   have hg0 := rgV_get (x := x) (n := i) (i := 0) (by omega)
   have hg1 := rgV_get (x := x) (n := i) (i := i - 1) (by omega)
   have l0 := hx.lo 0 (by omega)
   have l1 := hx.lo (i - 1) (by omega)
   have u0 := hx.hi 0 (by omega)
   have u1 := hx.hi (i - 1) (by omega)
   have a1 := low_btw h hlo hb l0.1 l0.2 hs.1 hs.2
   have a2 := low_btw h hhi hb l0.1 l0.2 hs.1 hs.2
   have a3 := up_btw h hlo l1.1 l1.2 hs.1 hs.2
   have a4 := up_btw h hhi l1.1 l1.2 hs.1 hs.2
   have b1 := low_btw h hlo hb u0.1 u0.2 hs.1 hs.2
   have b2 := low_btw h hhi hb u0.1 u0.2 hs.1 hs.2
   have b3 := up_btw h hlo u1.1 u1.2 hs.1 hs.2
   have b4 := up_btw h hhi u1.1 u1.2 hs.1 hs.2
   obtain ⟨A, hA⟩ : ∃ A, A = (x.1.set 0 (min (lowV ps b lo set (x.1.getD 0 0)) (lowV ps b hi0 set (x.1.getD 0 0)))).set (i - 1) (min (upV ps lo set (x.1.getD (i - 1) 0)) (upV ps hi0 set (x.1.getD (i - 1) 0))) := ⟨_, rfl⟩
   obtain ⟨B, hB⟩ : ∃ B, B = (x.2.set 0 (max (lowV ps b lo set (x.2.getD 0 0)) (lowV ps b hi0 set (x.2.getD 0 0)))).set (i - 1) (max (upV ps lo set (x.2.getD (i - 1) 0)) (upV ps hi0 set (x.2.getD (i - 1) 0))) := ⟨_, rfl⟩
   have hA2 : A = endsV x.1 (min (lowV ps b lo set (x.1.getD 0 0)) (lowV ps b hi0 set (x.1.getD 0 0))) (min (upV ps lo set (x.1.getD (i - 1) 0)) (upV ps hi0 set (x.1.getD (i - 1) 0))) := by rw [hA, endsV, lx1]
   have hB2 : B = endsV x.2 (max (lowV ps b lo set (x.2.getD 0 0)) (lowV ps b hi0 set (x.2.getD 0 0))) (max (upV ps lo set (x.2.getD (i - 1) 0)) (upV ps hi0 set (x.2.getD (i - 1) 0))) := by rw [hB, endsV, lx2]
   have lA : A.length = i := by rw [hA2, ends_len, lx1]
   have lB : B.length = i := by rw [hB2, ends_len, lx2]
   have rA : ∀ j, j < A.length → -1000000 ≤ A.getD j 0 ∧ A.getD j 0 ≤ 1000000 := fun j hj => by
    have := ends_btw (xs := x.1) (by omega) hx.lo (l := min (lowV ps b lo set (x.1.getD 0 0)) (lowV ps b hi0 set (x.1.getD 0 0))) (h := min (upV ps lo set (x.1.getD (i - 1) 0)) (upV ps hi0 set (x.1.getD (i - 1) 0))) (by omega) (by omega)
    rw [← hA2] at this
    have := this j hj
    omega
   have rB : ∀ j, j < B.length → -1000000 ≤ B.getD j 0 ∧ B.getD j 0 ≤ 1000000 := fun j hj => by
    have := ends_btw (xs := x.2) (by omega) hx.hi (l := max (lowV ps b lo set (x.2.getD 0 0)) (lowV ps b hi0 set (x.2.getD 0 0))) (h := max (upV ps lo set (x.2.getD (i - 1) 0)) (upV ps hi0 set (x.2.getD (i - 1) 0))) (by omega) (by omega)
    rw [← hB2] at this
    have := this j hj
    omega
   have hE : encStep ps mix lo hi0 b set x = (mixV mix A, mixV mix B) := by
    unfold encStep
    rw [step2ueq (by omega), step2ueq (by omega), lx1, lx2, hA2, hB2, Int.min_comm (lowV ps b lo set _), Int.min_comm (upV ps lo set _), Int.max_comm (lowV ps b lo set _), Int.max_comm (upV ps lo set _)]
   have dA : 0 < A.length ∧ A.length < 1000 := by omega
   have dB : 0 < B.length ∧ B.length < 1000 := by omega
   have mA : (mixV mix A).length = i := by rw [mixV_len, lA]
   have mB : (mixV mix B).length = i := by rw [mixV_len, lB]
   refine c_assoc ?_
   refine c_reg fun K hK => ?_
   simp only [vx, q102, hlen, hk, reduceIte, Nat.reduceEqDiff]
   apply hK; clear hK K
   refine c_if _ rfl (fun hb1 => ?_) (fun hb1 => ?_)
   cases hb1
   refine c_exit ?_
   simp only [thenV_n, thenV_e, blockV_e, reduceIte]
   refine c_draw fun K hK => ?_
   simp only [vx, q102, reduceIte, Nat.reduceEqDiff, Nat.reduceAdd, Nat.reduceLeDiff, reduceCtorEq]
   refine nb ?_
   refine nb ?_
   (refine draw_ok (by decide +kernel) (hK _ ?_); clear hK; clear K)
   refine c_reg fun K hK => ?_
   simp only [vx, q102, hlen, reduceIte, Nat.reduceEqDiff]
   (simp (disch := omega) only [wr64]; try simp only [vx, vt, vp, q102, hlen, hk, hg0, hg1, ← hA, ← hB, hb, hb1, Int.reduceBNe, Int.reduceBEq, Int.reduceLT, Int.reduceLE, Int.reduceGT, Int.reduceGE, decide_true, decide_false, bne_self_eq_false, beq_self_eq_true, reduceIte, Nat.reduceEqDiff, Nat.reduceAdd, Nat.reduceLeDiff, Nat.reduceMul, Nat.reduceLT, reduceCtorEq])
   apply hK; clear hK K
   refine c_draw fun K hK => ?_
   simp only [vx, q102, reduceIte, Nat.reduceEqDiff, Nat.reduceAdd, Nat.reduceLeDiff, reduceCtorEq]
   (refine atI_map default (by first | assumption | omega | (simp <;> omega)) (by first | assumption | omega | (simp <;> omega)) ?_; simp only [vx, vp, q102, hg0, Nat.reduceAdd])
   (apply d_call (spec111 _ _ _ _ _ _ _ _ ?ya ?yb ?yc ?yd ?ye); (case hf => rfl); (case hq => (simp only [vm, reduceIte, Nat.reduceEqDiff]; rfl)); (case hvs => rfl); (case ya | yb | yc | yd | ye => first | assumption | omega | (simp <;> omega)))
   simp only [vx, q102, reduceIte, Nat.reduceEqDiff, Nat.reduceAdd, Nat.reduceLeDiff, reduceCtorEq]
   (refine atI_map default (by first | assumption | omega | (simp <;> omega)) (by first | assumption | omega | (simp <;> omega)) ?_; simp only [vx, vp, q102, hg0, Nat.reduceAdd])
   (apply d_call (spec111 _ _ _ _ _ _ _ _ ?yf ?yg ?yh ?yi ?yj); (case hf => rfl); (case hq => (simp only [vm, reduceIte, Nat.reduceEqDiff]; rfl)); (case hvs => rfl); (case yf | yg | yh | yi | yj => first | assumption | omega | (simp <;> omega)))
   simp only [vx, vp, q102, Int.reduceLE, reduceIte, Nat.reduceEqDiff, reduceCtorEq]
   refine nb ?_
   (refine want_map 0 (by first | assumption | omega | (simp <;> omega)) ?_; simp only [vx, vp, Nat.reduceLeDiff])
   (refine draw_ok (by decide +kernel) (hK _ ?_); clear hK; clear K)
   refine c_draw fun K hK => ?_
   simp only [vx, q102, reduceIte, Nat.reduceEqDiff, Nat.reduceAdd, Nat.reduceLeDiff, reduceCtorEq]
   (refine atI_map default (by first | assumption | omega | (simp <;> omega)) (by first | assumption | omega | (simp <;> omega)) ?_; simp only [vx, vp, q102, hg0, Nat.reduceAdd])
   (apply d_call (spec111 _ _ _ _ _ _ _ _ ?yk ?yl ?ym ?yn ?yo); (case hf => rfl); (case hq => (simp only [vm, reduceIte, Nat.reduceEqDiff]; rfl)); (case hvs => rfl); (case yk | yl | ym | yn | yo => first | assumption | omega | (simp <;> omega)))
   simp only [vx, q102, reduceIte, Nat.reduceEqDiff, Nat.reduceAdd, Nat.reduceLeDiff, reduceCtorEq]
   (refine atI_map default (by first | assumption | omega | (simp <;> omega)) (by first | assumption | omega | (simp <;> omega)) ?_; simp only [vx, vp, q102, hg0, Nat.reduceAdd])
   (apply d_call (spec111 _ _ _ _ _ _ _ _ ?yp ?yq ?yr ?ys ?yt); (case hf => rfl); (case hq => (simp only [vm, reduceIte, Nat.reduceEqDiff]; rfl)); (case hvs => rfl); (case yp | yq | yr | ys | yt => first | assumption | omega | (simp <;> omega)))
   simp only [vx, vp, q102, Int.reduceLE, reduceIte, Nat.reduceEqDiff, reduceCtorEq]
   refine nb ?_
   (refine want_map 0 (by first | assumption | omega | (simp <;> omega)) ?_; simp only [vx, vp, Nat.reduceLeDiff])
   (refine draw_ok (by decide +kernel) (hK _ ?_); clear hK; clear K)
   refine c_draw fun K hK => ?_
   simp only [vx, q102, reduceIte, Nat.reduceEqDiff, Nat.reduceAdd, Nat.reduceLeDiff, reduceCtorEq]
   (refine atI_map default (by first | assumption | omega | (simp <;> omega)) (by first | assumption | omega | (simp <;> omega)) ?_; simp only [vx, vp, q102, hg1, Nat.reduceAdd])
   (apply d_call (spec112 _ _ _ _ _ _ _ ?yu ?yv ?yw ?yx); (case hf => rfl); (case hq => (simp only [vm, reduceIte, Nat.reduceEqDiff]; rfl)); (case hvs => rfl); (case yu | yv | yw | yx => first | assumption | omega | (simp <;> omega)))
   simp only [vx, q102, reduceIte, Nat.reduceEqDiff, Nat.reduceAdd, Nat.reduceLeDiff, reduceCtorEq]
   (refine atI_map default (by first | assumption | omega | (simp <;> omega)) (by first | assumption | omega | (simp <;> omega)) ?_; simp only [vx, vp, q102, hg1, Nat.reduceAdd])
   (apply d_call (spec112 _ _ _ _ _ _ _ ?yy ?yz ?yba ?ybb); (case hf => rfl); (case hq => (simp only [vm, reduceIte, Nat.reduceEqDiff]; rfl)); (case hvs => rfl); (case yy | yz | yba | ybb => first | assumption | omega | (simp <;> omega)))
   simp only [vx, vt, vp, q102, reduceIte, Nat.reduceEqDiff, reduceCtorEq]
   refine nb ?_
   (refine want_map 0 (by first | assumption | omega | (simp <;> omega)) ?_; simp only [vx, vp, ← hA, Nat.reduceLeDiff])
   (refine draw_ok (by decide +kernel) (hK _ ?_); clear hK; clear K)
   refine c_draw fun K hK => ?_
   simp only [vx, q102, reduceIte, Nat.reduceEqDiff, Nat.reduceAdd, Nat.reduceLeDiff, reduceCtorEq]
   (refine atI_map default (by first | assumption | omega | (simp <;> omega)) (by first | assumption | omega | (simp <;> omega)) ?_; simp only [vx, vp, q102, hg1, Nat.reduceAdd])
   (apply d_call (spec112 _ _ _ _ _ _ _ ?ybc ?ybd ?ybe ?ybf); (case hf => rfl); (case hq => (simp only [vm, reduceIte, Nat.reduceEqDiff]; rfl)); (case hvs => rfl); (case ybc | ybd | ybe | ybf => first | assumption | omega | (simp <;> omega)))
   simp only [vx, q102, reduceIte, Nat.reduceEqDiff, Nat.reduceAdd, Nat.reduceLeDiff, reduceCtorEq]
   (refine atI_map default (by first | assumption | omega | (simp <;> omega)) (by first | assumption | omega | (simp <;> omega)) ?_; simp only [vx, vp, q102, hg1, Nat.reduceAdd])
   (apply d_call (spec112 _ _ _ _ _ _ _ ?ybg ?ybh ?ybi ?ybj); (case hf => rfl); (case hq => (simp only [vm, reduceIte, Nat.reduceEqDiff]; rfl)); (case hvs => rfl); (case ybg | ybh | ybi | ybj => first | assumption | omega | (simp <;> omega)))
   simp only [vx, vt, vp, q102, reduceIte, Nat.reduceEqDiff, reduceCtorEq]
   refine nb ?_
   (refine want_map 0 (by first | assumption | omega | (simp <;> omega)) ?_; simp only [vx, vp, ← hB, Nat.reduceLeDiff])
   (refine draw_ok (by decide +kernel) (hK _ ?_); clear hK; clear K)
   refine c_draw fun K hK => ?_
   simp only [vx, q102, reduceIte, Nat.reduceEqDiff, Nat.reduceAdd, Nat.reduceLeDiff, reduceCtorEq]
   (apply d_call (spec113 _ _ _ _ _ ?ybk ?ybl ?ybm); (case hf => rfl); (case hq => (simp only [vx, reduceIte, Nat.reduceEqDiff, reduceCtorEq]; rfl)); (case hvs => rfl); (case ybk | ybl | ybm => first | assumption | omega | (simp <;> omega)))
   simp only [vx, q102, reduceIte, Nat.reduceEqDiff, Nat.reduceAdd, Nat.reduceLeDiff, reduceCtorEq]
   (apply d_call (spec113 _ _ _ _ _ ?ybn ?ybo ?ybp); (case hf => rfl); (case hq => (simp only [vx, reduceIte, Nat.reduceEqDiff, reduceCtorEq]; rfl)); (case hvs => rfl); (case ybn | ybo | ybp => first | assumption | omega | (simp <;> omega)))
   simp only [vx, reduceIte, Nat.reduceEqDiff]
   (refine draw_ok (by decide +kernel) (hK _ ?_); clear hK; clear K)
   refine c_reg fun K hK => ?_
   simp only [vx]
   apply hK; clear hK K
   refine c_assoc ?_
   refine c_reg fun K hK => ?_
   simp only [vx]
   apply hK; clear hK K
   refine c_block ?_
   rw [hE]
   clear hE hA hB hA2 hB2 rA rB a1 a2 a3 a4 b1 b2 b3 b4
   generalize mixV mix A = A' at *
   generalize mixV mix B = B' at *
   refine vcode_loop (fun j : Nat => [(2, L.p (V.sl (List.map p2 (rgV x i)))), (8, L.nilS), (9, L.p (V.sl (List.map nn A'))), (10, L.p (V.sl (List.map nn B'))), (15, L.arr 153 0), (16, L.p (nn j))]) (fun j => [(Key.a 153, M.arr 0 26 2 (List.map p2 (rgV (A', B') j)))]) (fun j => j ≤ i) (fun j => i - j) 0 (Nat.zero_le _) ?_ ?_
   ·
    (simp only [vm, vmk, reduceIte, Nat.reduceEqDiff, Nat.reduceLT, reduceCtorEq]; try simp (disch := omega) only [wr64]; try omega)
    exact ⟨Or.inr trivial, rfl⟩
   ·
    clear hk
    rintro j hj
    have hlj := rgV_len (x := (A', B')) (n := j)
    rcases Nat.lt_or_ge j i with hjl | hjl
    ·
     have hk : decide ((j : Int) < i) = true := decide_eq_true (by omega)
     refine c_assoc ?_
     refine c_reg fun K hK => ?_
     simp only [vx, q102, hlen, hk, reduceIte, Nat.reduceEqDiff]
     apply hK; clear hK K
     refine c_if _ rfl (fun hb2 => ?_) (fun hb2 => ?_)
     refine c_skip ?_
     refine c_block ?_
     refine c_draw1 fun K hK => ?_
     simp only [vx, vp, q102, reduceIte, Nat.reduceEqDiff, Nat.reduceAdd, Nat.reduceLeDiff, Nat.reduceMul, Nat.reduceLT, reduceCtorEq]
     (refine atI_map 0 (by first | assumption | omega | (simp <;> omega)) (by first | assumption | omega | (simp <;> omega)) ?_; simp only [vx, q102, reduceIte, Nat.reduceAdd, Nat.reduceLeDiff])
     (refine atI_map 0 (by first | assumption | omega | (simp <;> omega)) (by first | assumption | omega | (simp <;> omega)) ?_; simp only [vx, vp, q102, reduceIte, Nat.reduceEqDiff, Nat.reduceAdd, reduceCtorEq])
     refine nb ?_
     refine nb ?_
     (refine draw_ok (by decide +kernel) (hK _ ?_); clear hK; clear K)
     simp only [thenV_n, blockV_n]
     refine c_reg1 fun K hK => ?_
     simp only [vx, reduceIte, Nat.reduceEqDiff]
     (simp (disch := omega) only [wr64]; try simp only [vx, vt, vp, q102, hlen, hk, hb, hb1, hb2, Int.reduceBNe, Int.reduceBEq, Int.reduceLT, Int.reduceLE, Int.reduceGT, Int.reduceGE, decide_true, decide_false, bne_self_eq_false, beq_self_eq_true, reduceIte, Nat.reduceEqDiff, Nat.reduceAdd, Nat.reduceLeDiff, Nat.reduceMul, Nat.reduceLT, reduceCtorEq])
     apply hK; clear hK K
     simp only [thenV_n]
     rotate_left
     cases hb2
     refine ⟨j + 1, ?_, by omega, by omega⟩
     rw [rgV_succ]
     (simp only [vm, vmk, reduceIte, Nat.reduceEqDiff, reduceCtorEq]; try simp (disch := omega) only [wr64]; try omega)
     rfl
    ·
     have hk : decide ((j : Int) < i) = false := decide_eq_false (by omega)
     have hje : j = i := by omega
     subst hje
     refine c_assoc ?_
     refine c_reg fun K hK => ?_
     simp only [vx, q102, hlen, hk, reduceIte, Nat.reduceEqDiff]
     apply hK; clear hK K
     refine c_if _ rfl (fun hb2 => ?_) (fun hb2 => ?_)
     cases hb2
     refine c_exit ?_
     simp only [thenV_n, thenV_e, blockV_e, reduceIte]
     refine c_reg fun K hK => ?_
     simp only [vx, reduceIte, Nat.reduceEqDiff]
     apply hK; clear hK K
     refine c_ret1 ?_
     simp only [vx, reduceIte, Nat.reduceEqDiff]
end Go.Vm
