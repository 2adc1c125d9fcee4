import Derived.Test.YtfgjngignahcdaaDoorWcD
import Derived.Test.YtfgjngignahcdaaDoorWcPe
set_option linter.all false
/- What the law CoolEnclosed compares: plain. -/
namespace Go.Vm
open Go.Proofs
theorem passH_same {t t' : CTab} {s : Nat} {ρ ρ' : Nat → Int} {h : Int} (ew : t'.water = t.water) (ea : t'.air = t.air) : ∀ {n : Nat}, (∀ i, i < n → ρ' i = ρ i) → passH t' s ρ' h n = passH t s ρ h n
  | 0, _ => rfl
  | n + 1, e => by
    simp only [passH]
    rw [passH_same ew ea (fun i hi => e i (by omega)), e n (by omega)]
    unfold stepH
    rw [ew, ea]
/-- A rate of each bank, by the numbers that are given. -/
def rtP (t : CTab) (ps : List Int) (b : Nat) : Int := (t.banks.getD b default).lo + modV (ps.getD (b + 1) 0) ((t.banks.getD b default).hi - (t.banks.getD b default).lo + 1)
theorem rtP_in {t : CTab} {ps : List Int} (ht : TabOk t) {i : Nat} (hi : i < t.banks.length) : (t.banks.getD i default).lo ≤ rtP t ps i ∧ rtP t ps i ≤ (t.banks.getD i default).hi := by
  have hb := ht.bank i hi
  have := modV_bound (n := ps.getD (i + 1) 0) (m := (t.banks.getD i default).hi - (t.banks.getD i default).lo + 1) (by omega)
  unfold rtP; omega
abbrev rtL (t : CTab) (ps : List Int) (n : Nat) : List Int := (List.range n).map (rtP t ps)
theorem rtL_at {t : CTab} {ps : List Int} {n i : Nat} (h : i < n) : (rtL t ps n).getD i 0 = rtP t ps i := by
  rw [List.getD_eq_getElem?_getD, List.getElem?_map, List.getElem?_range h]; rfl
theorem rtL_succ {t : CTab} {ps : List Int} {n : Nat} : rtL t ps (n + 1) = rtL t ps n ++ [rtP t ps n] := by simp [rtL, List.range_succ]
abbrev exP (t : CTab) (ps : List Int) : CTab := exT t (rtP t ps) t.banks.length
theorem exP_ok {t : CTab} {ps : List Int} (ht : TabOk t) : TabOk (exP t ps) := exT_ok ht fun i hi => rtP_in ht hi
theorem exP_len {t : CTab} {ps : List Int} : (exP t ps).banks.length = t.banks.length := exB_len
theorem exP_hi {t : CTab} {ps : List Int} {i : Nat} (h : i < t.banks.length) : hiR (exP t ps) i = rtP t ps i := by
  unfold hiR exP exT; simp only; rw [exB_at h, if_pos h]
theorem exP_lo {t : CTab} {ps : List Int} {i : Nat} (h : i < t.banks.length) : loR (exP t ps) i = rtP t ps i := by
  unfold loR exP exT; simp only; rw [exB_at h, if_pos h]
/-- What a temperature is behind the table with these rates. -/
abbrev outP (t : CTab) (s : Nat) (ps : List Int) (h : Int) : Int := passH t s (rtP t ps) h t.banks.length
theorem exP_pas {t : CTab} {s : Nat} {ps : List Int} {h : Int} : pasR (exP t ps) s (h, h) = (outP t s ps h, outP t s ps h) := by
  unfold pasR
  rw [exP_len]
  have e1 : passH (exP t ps) s (hiR (exP t ps)) h t.banks.length = outP t s ps h := passH_same (t := t) (t' := exP t ps) rfl rfl fun i hi => exP_hi hi
  have e2 : passH (exP t ps) s (loR (exP t ps)) h t.banks.length = outP t s ps h := passH_same (t := t) (t' := exP t ps) rfl rfl fun i hi => exP_lo hi
  simp only [e1, e2]
theorem outP_mono {t : CTab} {s : Nat} {ps : List Int} {h h' : Int} (ht : TabOk t) (hh : h ≤ h') : outP t s ps h ≤ outP t s ps h' :=
  passH_mono rfl rfl hh (fun i hi => by have := rtP_in (ps := ps) ht hi; have := ht.bank i hi; omega) (fun i _ h => h)
theorem outP_in {t : CTab} {s : Nat} {ps : List Int} {r : Int × Int} {h : Int} (ht : TabOk t) (h1 : r.1 ≤ h) (h2 : h ≤ r.2) : (pasR t s r).1 ≤ outP t s ps h ∧ outP t s ps h ≤ (pasR t s r).2 := by
  constructor
  · exact passH_mono rfl rfl h1 (fun i hi => by have := rtP_in (ps := ps) ht hi; have := ht.bank i hi; unfold hiR; omega) (fun i _ h => h)
  · exact passH_mono rfl rfl h2 (fun i hi => by have := rtP_in (ps := ps) ht hi; have := ht.bank i hi; unfold loR; omega) (fun i _ h => h)
theorem more_le {t : CTab} {s b : Nat} {r : Int × Int} (ht : TabOk t) (hs : s < 16) (hb : b < t.banks.length) : (pasR t (s ||| 2 ^ b) r).1 ≤ (pasR t s r).1 ∧ (pasR t (s ||| 2 ^ b) r).2 ≤ (pasR t s r).2 := by
  have h4 := ht.len
  constructor
  · exact passH_mono rfl rfl (Int.le_refl _) (fun i hi => by have := ht.bank i hi; unfold hiR; omega) (fun i hi h => or_has s hs b (by omega) i (by omega) h)
  · exact passH_mono rfl rfl (Int.le_refl _) (fun i hi => by have := ht.bank i hi; unfold loR; omega) (fun i hi h => or_has s hs b (by omega) i (by omega) h)
theorem pb_ok {t : CTab} {s : Nat} {r : Int × Int} (ht : TabOk t) (hs : s < 2 ^ t.banks.length) (hr : rgE r 12000 = 0) : pbE t (s : Int) r = 0 ∧ pbV t (s : Int) r = pasR t s r := by
  have hsz : setE t (s : Int) = 0 := by unfold setE; rw [wi2.2 ⟨by omega, by omega⟩]; rfl
  have e : pbE t (s : Int) r = 0 := by unfold pbE; rw [if_neg (fun k => k (tab_zero ht)), first_cons0 hsz, first_cons0 hr]; rfl
  refine ⟨e, ?_⟩
  unfold pbV; rw [if_pos e, Int.toNat_natCast]
end Go.Vm
