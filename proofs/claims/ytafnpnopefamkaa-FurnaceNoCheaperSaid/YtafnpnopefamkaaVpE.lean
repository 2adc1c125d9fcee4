import Derived.Test.YtafnpnopefamkaaVmBC
import Derived.Test.YtafnpnopefamkaaVpD
set_option linter.all false
namespace Go.Vm
open Go.Proofs
open Nat renaming reduceEqDiff → rE, reduceAdd → rA, reduceLeDiff → rL, reduceLT → rT, reduceMul → rM
set_option maxRecDepth 20000
set_option maxHeartbeats 8000000
theorem irz {k : IntKind} {n : Int} : isRow [L.p (V.i k n)] = false := rfl
theorem floor_ediv {n b : Int} (hb : 0 < b) : (if n.tmod b < 0 then n.tdiv b - 1 else n.tdiv b) = n / b := by
 rw [Int.tdiv_eq_ediv, Int.tmod_eq_emod]
 by_cases h : 0 ≤ n ∨ b ∣ n
 ·
  rw [if_pos h, if_pos h]
  have := Int.emod_nonneg n (show b ≠ 0 by omega)
  rw [if_neg (by omega)]; try omega
 ·
  rw [if_neg h, if_neg h]
  have := Int.emod_lt_of_pos n hb
  have hs : b.sign = 1 := Int.sign_eq_one_of_pos hb
  rw [if_pos (by omega), hs, Int.add_sub_cancel]
theorem floorV_eq {n b : Int} (hb : 0 < b) (h1 : -4611686018427387904 ≤ n) (h2 : n ≤ 4611686018427387904) : floorV n b = n / b := by
 have hd := tdiv_bound (d := b) h1 h2
 unfold floorV
 rw [wr64 (n := n.tdiv b) (by omega) (by omega), wr64 (n := n.tdiv b - 1) (by omega) (by omega), floor_ediv hb]
theorem spec106 (n b : Int) (hb : 0 < b) (h1 : -4611686018427387904 ≤ n) (h2 : n ≤ 4611686018427387904) : Sp0 106 [nn n, nn b] (R.v (nn (n / b))) := by
 rw [← floorV_eq hb h1 h2]; exact spec106g n b (by omega)
theorem idx_pos {ps : List (Int × Int)} {t : Int} {k : Nat} (h : idxV (fun n => decide (n.1 ≥ t)) ps = k) (h0 : k < ps.length) : (ps.getD k default).1 ≥ t ∧ ∀ j, j < k → (ps.getD j default).1 < t := by
 unfold idxV at h
 cases hf : ps.findIdx? (fun n => decide (n.1 ≥ t)) with
 | none => rw [hf] at h; simp at h
 | some i =>
  rw [hf] at h
  simp only [Option.elim] at h
  have hik : i = k := by omega
  subst hik
  rw [List.findIdx?_eq_some_iff_getElem] at hf
  obtain ⟨h1, h2, h3⟩ := hf
  refine ⟨by simpa [List.getD, h1] using h2, fun j hj => ?_⟩
  have := h3 j hj
  simpa [List.getD, show j < ps.length by omega] using this
theorem rad_cases {ps : List (Int × Int)} (h : TabOk ps) (t : Int) :
  (radV ps t = (ps.getD (ps.length - 1) default).2 ∧ (ps.getD (ps.length - 1) default).1 < t) ∨ (radV ps t = (ps.getD 0 default).2 ∧ t ≤ (ps.getD 0 default).1) ∨
  ∃ k, 0 < k ∧ k < ps.length ∧ (ps.getD (k - 1) default).1 < t ∧ t ≤ (ps.getD k default).1 ∧ radV ps t = (ps.getD (k - 1) default).2 + (((ps.getD k default).2 - (ps.getD (k - 1) default).2) * (t - (ps.getD (k - 1) default).1)) / ((ps.getD k default).1 - (ps.getD (k - 1) default).1) := by
 have hlen := h.len
 have hi := idx_lt (fun n => decide (n.1 ≥ t)) ps
 by_cases hneg : idxV (fun n => decide (n.1 ≥ t)) ps < 0
 ·
  left
  refine ⟨by unfold radV; simp only [hneg, if_true], ?_⟩
  unfold idxV at hneg
  cases hf : ps.findIdx? (fun n => decide (n.1 ≥ t)) with
  | none =>
   rw [List.findIdx?_eq_none_iff] at hf
   have := hf ps[ps.length - 1] (List.getElem_mem (by omega))
   simpa [List.getD, show ps.length - 1 < ps.length by omega] using this
  | some i => rw [hf] at hneg; simp only [Option.elim] at hneg; omega
 ·
  obtain ⟨k, hk⟩ := Int.eq_ofNat_of_zero_le (show 0 ≤ idxV (fun n => decide (n.1 ≥ t)) ps by omega)
  have hkl : k < ps.length := by
   rcases hi with hi | hi
   ·
    have := hi.2; split at this <;> omega
   ·
    omega
  have hp := idx_pos hk hkl
  by_cases hk0 : k = 0
  ·
   subst hk0
   right; left
   refine ⟨?_, hp.1⟩
   unfold radV; simp only [hk]; rfl
  ·
   right; right
   have h1 := hp.2 (k - 1) (by omega)
   have hs := h.srt k (by omega) hkl
   refine ⟨k, by omega, hkl, h1, hp.1, ?_⟩
   unfold radV
   simp only [hk, Int.toNat_natCast, show ¬ ((k : Int) < 0) by omega, show ¬ ((k : Int) = 0) by omega, if_false]
   rw [Int.tdiv_eq_ediv_of_nonneg (Int.mul_nonneg (by omega) (by omega))]
theorem rad_rng {ps : List (Int × Int)} (h : TabOk ps) (t : Int) : 0 ≤ radV ps t ∧ radV ps t ≤ 20000 := by
 have hlen := h.len
 rcases rad_cases h t with ⟨h1, _⟩ | ⟨h1, _⟩ | ⟨k, h0, hk, h2, h3, h1⟩
 ·
  have := h.rng (ps.length - 1) (by omega); omega
 ·
  have := h.rng 0 (by omega); omega
 ·
  have ha := h.rng (k - 1) (by omega)
  have hb := h.rng k hk
  have hs := h.srt k h0 hk
  generalize ps.getD (k - 1) default = a at *
  generalize ps.getD k default = b at *
  rw [h1]
  have e1 : 0 ≤ (b.2 - a.2) * (t - a.1) / (b.1 - a.1) := Int.ediv_nonneg (Int.mul_nonneg (by omega) (by omega)) (by omega)
  have e2 : (b.2 - a.2) * (t - a.1) / (b.1 - a.1) ≤ b.2 - a.2 := by
   refine Int.ediv_le_of_le_mul (by omega) ?_
   exact Int.mul_le_mul_of_nonneg_left (by omega) (by omega)
  omega
def gainV (ps : List (Int × Int)) (e set node : Int) : Int := e * (radV ps set - radV ps node)
def upV (ps : List (Int × Int)) (e set node : Int) : Int := node + gainV ps e set node / 1000
def lowV (ps : List (Int × Int)) (bottom e set node : Int) : Int := node + gainV ps e set node * bottom / 1000000
@[reducible] def ovenV (ps : List (Int × Int)) (mix lo hi bottom : Int) : V := .agg [.sl (ps.map p2), nn mix, nn lo, nn hi, nn bottom]
theorem gain_b {ps : List (Int × Int)} (h : TabOk ps) {e set node : Int} (he : 0 ≤ e) (he' : e ≤ 1000) : -20000000 ≤ gainV ps e set node ∧ gainV ps e set node ≤ 20000000 := by
 have h1 := rad_rng h set
 have h2 := rad_rng h node
 exact mul_bound (X := 1000) (Y := 20000) (by omega) (by omega) (by omega) (by omega)
theorem spec107 (ps : List (Int × Int)) (mix lo hi bottom e set node : Int) (h : TabOk ps) (he : 0 ≤ e) (he' : e ≤ 1000) (hs : 0 ≤ set ∧ set ≤ 20000) (hn : -1000000 ≤ node ∧ node ≤ 1000000) : Sp0 107 [ovenV ps mix lo hi bottom, nn e, nn set, nn node] (R.v (nn (gainV ps e set node))) := by
 have h1 := rad_rng h set
 have h2 := rad_rng h node
 have hg := gain_b h (set := set) (node := node) he he'
 refine spec_of mixed (fun _ _ _ h => h) Try.func107 (by decide +kernel) rfl (rs := _) rfl (by rfl) rfl (by simp [Try.f107]) (by decide +kernel) ?_; simp only [argsG, Nat.zero_add, rA]
 refine c_reg fun K hK => ?_
 simp only [vx, reduceIte, rA, reduceCtorEq]
 refine nb ?_
 apply hK; clear hK K
 refine c_draw fun K hK => ?_
 simp only [vx, q107, reduceIte, rE, rL, reduceCtorEq]
 (apply d_call (spec114 _ _ ?ya ?yb ?yc); (case hf => rfl); (case hq => (simp only [vm, reduceIte, rE, reduceCtorEq]; rfl)); (case hvs => rfl); (case ya | yb | yc => first | assumption | omega | (simp <;> omega)))
 simp only [vx, q107, reduceIte, rE, rL, reduceCtorEq]
 (apply d_call (spec114 _ _ ?yd ?ye ?yf); (case hf => rfl); (case hq => (simp only [vm, reduceIte, rE, reduceCtorEq]; rfl)); (case hvs => rfl); (case yd | ye | yf => first | assumption | omega | (simp <;> omega)))
 simp only [vx, reduceIte, rE, reduceCtorEq]
 (refine draw_ok (by decide +kernel) (hK _ ?_); clear hK; clear K)
 refine c_ret1 ?_
 simp only [vx, reduceIte, rE, reduceCtorEq]
 all_goals unfold gainV at *
 all_goals try simp (disch := omega) only [wr64]
theorem spec96 (ps : List (Int × Int)) (mix lo hi bottom e set node : Int) (h : TabOk ps) (he : 0 ≤ e) (he' : e ≤ 1000) (hs : 0 ≤ set ∧ set ≤ 20000) (hn : -1000000 ≤ node ∧ node ≤ 1000000) : Sp0 96 [ovenV ps mix lo hi bottom, nn e, nn set, nn node] (R.v (nn (upV ps e set node))) := by
 have hg := gain_b h (set := set) (node := node) he he'
 refine spec_of mixed (fun _ _ _ h => h) Try.func96 (by decide +kernel) rfl (rs := _) rfl (by rfl) rfl (by simp [Try.f96]) (by decide +kernel) ?_; simp only [argsG, Nat.zero_add, rA]
 refine c_reg fun K hK => ?_
 simp only [vx, reduceIte, rA, reduceCtorEq]
 refine nb ?_
 apply hK; clear hK K
 refine c_reg fun K hK => ?_
 simp only [vx, q96, reduceIte, rE, rA, rL, reduceCtorEq]
 (apply s_call (spec107 _ _ _ _ _ _ _ _ ?yg ?yh ?yi ?yj ?yk); (case hf => rfl); (case hq => (simp only [vm, reduceIte, rE, reduceCtorEq]; rfl)); (case hvs => rfl); (case yg | yh | yi | yj | yk => first | assumption | omega | (simp <;> omega)))
 (apply s_call (spec106 _ _ ?yl ?ym ?yn); (case hf => rfl); (case hq => (simp only [vx, reduceIte, rE, reduceCtorEq]; rfl)); (case hvs => rfl); (case yl | ym | yn => first | assumption | omega | (simp <;> omega)))
 simp only [vx, reduceIte, rE, reduceCtorEq]
 (simp (disch := omega) only [wr64]; try simp only [vx, vt, vp, q96, Int.reduceBNe, Int.reduceBEq, Int.reduceLT, Int.reduceLE, Int.reduceGT, Int.reduceGE, decide_true, decide_false, bne_self_eq_false, beq_self_eq_true, reduceIte, rE, rA, rL, rM, rT, reduceCtorEq])
 apply hK; clear hK K
 refine c_ret1 ?_
 simp only [vx, reduceIte, rE, reduceCtorEq]
 rfl
 all_goals unfold upV at *
 all_goals try simp (disch := omega) only [wr64]
theorem spec95 (ps : List (Int × Int)) (mix lo hi bottom e set node : Int) (h : TabOk ps) (he : 0 ≤ e) (he' : e ≤ 1000) (hs : 0 ≤ set ∧ set ≤ 20000) (hn : -1000000 ≤ node ∧ node ≤ 1000000) (hb : 0 ≤ bottom ∧ bottom ≤ 1000) : Sp0 95 [ovenV ps mix lo hi bottom, nn e, nn set, nn node] (R.v (nn (lowV ps bottom e set node))) := by
 have hg := gain_b h (set := set) (node := node) he he'
 have hm := mul_bound (y := bottom) (Y := 1000) hg.1 hg.2 (by omega) (by omega)
 refine spec_of mixed (fun _ _ _ h => h) Try.func95 (by decide +kernel) rfl (rs := _) rfl (by rfl) rfl (by simp [Try.f95]) (by decide +kernel) ?_; simp only [argsG, Nat.zero_add, rA]
 refine c_reg fun K hK => ?_
 simp only [vx, reduceIte, rA, reduceCtorEq]
 refine nb ?_
 apply hK; clear hK K
 refine c_draw fun K hK => ?_
 simp only [vx, q95, reduceIte, rE, rA, rL, reduceCtorEq]
 (apply d_call (spec107 _ _ _ _ _ _ _ _ ?yo ?yp ?yq ?yr ?ys); (case hf => rfl); (case hq => (simp only [vm, reduceIte, rE, reduceCtorEq]; rfl)); (case hvs => rfl); (case yo | yp | yq | yr | ys => first | assumption | omega | (simp <;> omega)))
 simp only [vx, q95, reduceIte, rE, rA, rL, reduceCtorEq]
 simp (disch := omega) only [wr64]
 (apply d_call (spec106 _ _ ?yt ?yu ?yv); (case hf => rfl); (case hq => (simp only [vm, reduceIte, rE, reduceCtorEq]; rfl)); (case hvs => rfl); (case yt | yu | yv => first | assumption | omega | (simp <;> omega)))
 simp only [vx, reduceIte, rE, reduceCtorEq]
 (refine draw_ok (by decide +kernel) (hK _ ?_); clear hK; clear K)
 refine c_ret1 ?_
 simp only [vx, reduceIte, rE, reduceCtorEq]
 all_goals unfold lowV at *
 all_goals try simp (disch := omega) only [wr64]
def mixAt (mix : Int) (xs : List Int) (i : Nat) : Int := (mix * xs.getD (i - 1) 0 + mix * xs.getD (min (xs.length - 1) (i + 1)) 0 + (100 - 2 * mix) * xs.getD i 0) / 100
def mixV (mix : Int) (xs : List Int) : List Int := (List.range xs.length).map (mixAt mix xs)
def mixP (mix : Int) (xs : List Int) (i : Nat) : List Int := (List.range xs.length).map fun j => if j < i then mixAt mix xs j else 0
theorem mixP_zero {mix : Int} {xs : List Int} : mixP mix xs 0 = List.replicate xs.length 0 := by
 apply List.ext_getElem <;> simp [mixP]
theorem mixP_len {mix : Int} {xs : List Int} {i : Nat} : (mixP mix xs i).length = xs.length := by simp [mixP]
theorem mixP_set {mix : Int} {xs : List Int} {i : Nat} {v : Int} (hv : v = mixAt mix xs i) : (mixP mix xs i).set i v = mixP mix xs (i + 1) := by
 subst hv
 apply List.ext_getElem
 ·
  simp [mixP]
 ·
  intro j h1 h2
  simp only [mixP, List.getElem_set, List.getElem_map, List.getElem_range]
  by_cases hj : i = j
  ·
   subst hj; simp
  ·
   by_cases h3 : j < i
   ·
    simp [hj, h3, show j < i + 1 by omega]
   ·
    simp [hj, h3, show ¬ j < i + 1 by omega]
theorem mixP_all {mix : Int} {xs : List Int} {i : Nat} (h : xs.length ≤ i) : mixP mix xs i = mixV mix xs := by
 apply List.ext_getElem
 ·
  simp [mixP, mixV]
 ·
  intro j h1 h2
  simp only [mixP_len] at h1
  simp [mixP, mixV, show j < i by omega]
theorem maxPred {i : Nat} : (max 0 ((i : Int) - 1)).toNat = i - 1 := by omega
theorem minSucc {n i : Nat} : (min ((n : Int) - 1) ((i : Int) + 1)).toNat = min (n - 1) (i + 1) := by omega
theorem spec97 (ps : List (Int × Int)) (mix lo hi bottom : Int) (xs : List Int) (hm : 0 ≤ mix ∧ mix ≤ 50) (hl : 0 < xs.length ∧ xs.length < 1000) (hx : ∀ i, i < xs.length → -1000000 ≤ xs.getD i 0 ∧ xs.getD i 0 ≤ 1000000) : Sp0 97 [ovenV ps mix lo hi bottom, .sl (xs.map nn)] (R.v (.sl ((mixV mix xs).map nn))) := by
 refine spec_of mixed (fun _ _ _ h => h) Try.func97 (by decide +kernel) rfl (rs := _) rfl (by rfl) rfl (by simp [Try.f97]) (by decide +kernel) ?_; simp only [argsG, Nat.zero_add]
 refine c_reg fun K hK => ?_
 simp only [vx, reduceIte, rA, reduceCtorEq]
 refine nb ?_
 apply hK; clear hK K
 refine c_reg fun K hK => ?_
 simp only [vx, vt, vp, q97, irz, reduceIte, rE, rA, rT, reduceCtorEq]
 refine nb ?_
 apply hK; clear hK K
 refine c_assoc ?_
 refine c_reg fun K hK => ?_
 simp only [vx, q97, reduceIte, rE, reduceCtorEq]
 apply hK; clear hK K
 refine c_block ?_
 refine vcode_loop (fun i : Nat => [(1, L.p (V.sl (List.map nn xs))), (2, L.own 2 0), (5, L.arr 12 0), (13, L.p (V.sl (List.map nn xs))), (14, L.p (nn xs.length)), (15, L.p (nn i))]) (fun i => [(Key.a 12, M.arr 0 3 1 (List.map nn (mixP mix xs i))), (Key.b 2, M.box 5), (Key.c 2 0, M.cell (L.p (V.sl (List.map p2 ps)))), (Key.c 2 1, M.cell (L.p (nn mix))), (Key.c 2 2, M.cell (L.p (nn lo))), (Key.c 2 3, M.cell (L.p (nn hi))), (Key.c 2 4, M.cell (L.p (nn bottom)))]) (fun i => i ≤ xs.length) (fun i => xs.length - i) 0 (Nat.zero_le _) ?_ ?_
 ·
  simp only [vm, mixP_zero, vmk, reduceIte, rE, rA, rT, reduceCtorEq]
 ·
  rintro i hi
  have hlen := mixP_len (mix := mix) (xs := xs) (i := i)
  rcases Nat.lt_or_ge i xs.length with hil | hil
  ·
   have x1 := hx (i - 1) (by omega)
   have x2 := hx (min (xs.length - 1) (i + 1)) (by omega)
   have x3 := hx i hil
   have y1 := mul_bound (x := mix) (X := 50) (Y := 1000000) (by omega) (by omega) x1.1 x1.2
   have y2 := mul_bound (x := mix) (X := 50) (Y := 1000000) (by omega) (by omega) x2.1 x2.2
   have y3 := mul_bound (x := 100 - 2 * mix) (X := 100) (Y := 1000000) (by omega) (by omega) x3.1 x3.2
   refine c_reg fun K hK => ?_
   simp only [vx, reduceIte, rE]
   apply hK; clear hK K
   refine c_if _ rfl (fun hb1 => ?_) (fun hb1 => ?_) <;> (have hp1 := hb1; try simp only [decide_eq_true_eq, decide_eq_false_iff_not, Int.not_lt] at hp1)
   refine c_skip ?_
   refine c_block ?_
   refine c_reg fun K hK => ?_
   simp only [vx, q97, hb1, reduceIte, rE]
   (refine atI_map 0 (by first | assumption | omega | (simp <;> omega)) (by first | assumption | omega | (simp <;> omega)) ?_; simp only [vx, q97])
   apply hK; clear hK K
   refine c_draw fun K hK => ?_
   simp only [vx, q97, reduceIte, rE]
   simp (disch := omega) only [wr64]
   (refine atI_map 0 (by first | assumption | omega | (simp <;> omega)) (by first | assumption | omega | (simp <;> omega)) ?_; simp only [vx, q97, maxPred])
   (refine atI_map 0 (by first | assumption | omega | (simp <;> omega)) (by first | assumption | omega | (simp <;> omega)) ?_; simp only [vx, q97, minSucc])
   (refine draw_ok (by decide +kernel) (hK _ ?_); clear hK; clear K)
   refine c_reg1 fun K hK => ?_
   simp only [vx, q97, reduceIte, rE, rA, rL, reduceCtorEq]
   simp (disch := omega) only [wr64]
   (apply s_call (spec106 _ _ ?yw ?yx ?yy); (case hf => rfl); (case hq => (simp only [vm, reduceIte, rE]; rfl)); (case hvs => rfl); (case yw | yx | yy => first | assumption | omega | (simp <;> omega)))
   simp only [vx, q97, reduceIte, rE, reduceCtorEq]
   refine nb ?_
   (refine want_map 0 (by first | assumption | omega | (simp <;> omega)) ?_; simp only [vx, vp, rL])
   apply hK; clear hK K
   simp only [thenV_n, blockV_n]
   refine c_reg1 fun K hK => ?_
   simp only [vx, reduceIte, rE]
   (simp (disch := omega) only [wr64]; try simp only [vx, vt, vp, q97, irz, maxPred, minSucc, hb1, Int.reduceBNe, Int.reduceBEq, Int.reduceLT, Int.reduceLE, Int.reduceGT, Int.reduceGE, decide_true, decide_false, bne_self_eq_false, beq_self_eq_true, reduceIte, rE, rA, rL, rM, rT, reduceCtorEq])
   apply hK; clear hK K
   simp only [thenV_n]
   rotate_left
   refine c_exit ?_
   simp only [thenV_n, thenV_e, blockV_e, reduceIte]
   refine c_reg fun K hK => ?_
   simp only [vx, hb1, reduceIte, rE]
   apply hK; clear hK K
   refine c_ret1 ?_
   simp only [vx, reduceIte, rE, reduceCtorEq]
   rotate_left
   ·
    refine ⟨i + 1, ?_, by omega, by omega⟩
    rw [mixP_set (by rfl)]
    (simp only [vm, vmk, reduceIte, rE, rA, rT, reduceCtorEq]; try simp (disch := omega) only [wr64]; try omega)
    rfl
   ·
    omega
  ·
   refine c_reg fun K hK => ?_
   simp only [vx, reduceIte, rE]
   apply hK; clear hK K
   refine c_if _ rfl (fun hb1 => ?_) (fun hb1 => ?_) <;> (have hp1 := hb1; try simp only [decide_eq_true_eq, decide_eq_false_iff_not, Int.not_lt] at hp1)
   refine c_skip ?_
   refine c_block ?_
   refine c_reg fun K hK => ?_
   simp only [vx, q97, hb1, reduceIte, rE]
   (refine atI_map 0 (by first | assumption | omega | (simp <;> omega)) (by first | assumption | omega | (simp <;> omega)) ?_; simp only [vx, q97])
   apply hK; clear hK K
   refine c_draw fun K hK => ?_
   simp only [vx, q97, reduceIte, rE]
   simp (disch := omega) only [wr64]
   (refine atI_map 0 (by first | assumption | omega | (simp <;> omega)) (by first | assumption | omega | (simp <;> omega)) ?_; simp only [vx, q97, maxPred])
   (refine atI_map 0 (by first | assumption | omega | (simp <;> omega)) (by first | assumption | omega | (simp <;> omega)) ?_; simp only [vx, q97, minSucc])
   (refine draw_ok (by decide +kernel) (hK _ ?_); clear hK; clear K)
   refine c_reg1 fun K hK => ?_
   simp only [vx, q97, reduceIte, rE, rA, rL, reduceCtorEq]
   simp (disch := omega) only [wr64]
   (apply s_call (spec106 _ _ ?yz ?yba ?ybb); (case hf => rfl); (case hq => (simp only [vm, reduceIte, rE]; rfl)); (case hvs => rfl); (case yz | yba | ybb => first | assumption | omega | (simp <;> omega)))
   simp only [vx, q97, reduceIte, rE, reduceCtorEq]
   refine nb ?_
   (refine want_map 0 (by first | assumption | omega | (simp <;> omega)) ?_; simp only [vx, vp, rL])
   apply hK; clear hK K
   simp only [thenV_n, blockV_n]
   refine c_reg1 fun K hK => ?_
   simp only [vx, reduceIte, rE]
   (simp (disch := omega) only [wr64]; try simp only [vx, vt, vp, q97, irz, maxPred, minSucc, hb1, Int.reduceBNe, Int.reduceBEq, Int.reduceLT, Int.reduceLE, Int.reduceGT, Int.reduceGE, decide_true, decide_false, bne_self_eq_false, beq_self_eq_true, reduceIte, rE, rA, rL, rM, rT, reduceCtorEq])
   apply hK; clear hK K
   simp only [thenV_n]
   rotate_left
   refine c_exit ?_
   simp only [thenV_n, thenV_e, blockV_e, reduceIte]
   refine c_reg fun K hK => ?_
   simp only [vx, hb1, reduceIte, rE]
   apply hK; clear hK K
   refine c_ret1 ?_
   simp only [vx, reduceIte, rE, reduceCtorEq]
   rotate_left
   ·
    omega
   ·
    rw [mixP_all hil]
end Go.Vm
