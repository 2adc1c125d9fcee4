import Derived.Test.YtomnkckbmnbilaaDoorWpV
import Derived.Test.YtomnkckbmnbilaaDoorWpI
set_option linter.all false
/- Materials: plain. -/
namespace Go.Vm
open Go.Proofs
def oneS (s : PStand) (n : Int) : PStand := { s with llo := n, lhi := n }
def stN (st : List PStand) (ls : List Int) : Nat → List PStand
  | 0 => st
  | n + 1 => (stN st ls n).set n (oneS (st.getD n default) (ls.getD n 0))
theorem stN_len {st : List PStand} {ls : List Int} : ∀ {n : Nat}, (stN st ls n).length = st.length
  | 0 => rfl
  | n + 1 => by simp only [stN, List.length_set]; exact stN_len
theorem getD_set' {α : Type} {xs : List α} {i k : Nat} {v d : α} (h : i < xs.length) : (xs.set i v).getD k d = if k = i then v else xs.getD k d := by
  simp only [List.getD_eq_getElem?_getD, List.getElem?_set]
  by_cases e : k = i
  · subst e; simp [h]
  · rw [if_neg (fun h => e h.symm), if_neg e]
theorem stN_at {st : List PStand} {ls : List Int} : ∀ {n k : Nat}, n ≤ st.length → (stN st ls n).getD k default = if k < n then oneS (st.getD k default) (ls.getD k 0) else st.getD k default
  | 0, k, _ => by simp [stN]
  | n + 1, k, h => by
    simp only [stN]
    rw [getD_set' (by rw [stN_len]; omega), stN_at (n := n) (by omega)]
    by_cases e : k = n
    · subst e; simp
    · by_cases e2 : k < n
      · rw [if_neg e, if_pos e2, if_pos (by omega)]
      · rw [if_neg e, if_neg e2, if_neg (by omega)]
def oneR (r : PRules) (m : PMat) : PRules := { r with slo := m.stress, shi := m.stress, flo := m.friction, fhi := m.friction, hlo := m.heat, hhi := m.heat, stands := stN r.stands m.losses r.stands.length }
def matR (r : PRules) (m : PMat) : Bool := withinV m.stress r.slo r.shi && withinV m.friction r.flo r.fhi && withinV m.heat r.hlo r.hhi
def matH (r : PRules) (m : PMat) : Int := firstV [if matR r m then 0 else 2, if decide ((m.losses.length : Int) = r.stands.length) then 0 else 10]
def losE (st : List PStand) : Nat → List Int → Int × Int
  | _, [] => (0, 0)
  | i, n :: l => if withinV n (st.getD i default).llo (st.getD i default).lhi then losE st (i + 1) l else ((i : Int), 2)
def matE (r : PRules) (m : PMat) : Int × Int := if matH r m = 0 then losE r.stands 0 m.losses else (0, matH r m)
def matB (r : PRules) (m : PMat) : Int × Int := if (rulesE r).2 = 0 then matE r m else (0, (rulesE r).2)
theorem matE0 {r : PRules} {m : PMat} (h : matH r m = 0) : matE r m = losE r.stands 0 m.losses := by rw [matE, if_pos h]
theorem matE1 {r : PRules} {m : PMat} (h : matH r m ≠ 0) : matE r m = (0, matH r m) := by rw [matE, if_neg h]
theorem matB0 {r : PRules} {m : PMat} (h : (rulesE r).2 = 0) : matB r m = matE r m := by rw [matB, if_pos h]
theorem matB1 {r : PRules} {m : PMat} (h : (rulesE r).2 ≠ 0) : matB r m = (0, (rulesE r).2) := by rw [matB, if_neg h]
theorem los_step {st : List PStand} {i : Nat} {l : List Int} (h : i < l.length) : losE st i (l.drop i) = if withinV (l.getD i 0) (st.getD i default).llo (st.getD i default).lhi then losE st (i + 1) (l.drop (i + 1)) else ((i : Int), 2) := by
  rw [dropS 0 h]; simp only [losE]
theorem los_end {st : List PStand} {i n : Nat} {l : List Int} (h : l.length ≤ n) : losE st i (l.drop n) = (0, 0) := by
  rw [List.drop_of_length_le h]; rfl
theorem matH_ok {r : PRules} {m : PMat} (h : matH r m = 0) : matR r m = true ∧ m.losses.length = r.stands.length := by
  unfold matH at h
  by_cases c1 : matR r m = true
  · by_cases c2 : (m.losses.length : Int) = r.stands.length
    · exact ⟨c1, by omega⟩
    · simp only [c1, c2, firstV_cons, firstV_nil, if_true, decide_false, Bool.false_eq_true, if_false] at h; cases h
  · simp only [c1, firstV_cons, Bool.false_eq_true, if_false] at h; cases h
structure MatOk (r : PRules) (m : PMat) : Prop where
  st : r.slo ≤ m.stress ∧ m.stress ≤ r.shi
  fr : r.flo ≤ m.friction ∧ m.friction ≤ r.fhi
  ht : r.hlo ≤ m.heat ∧ m.heat ≤ r.hhi
  len : m.losses.length = r.stands.length
  los : ∀ k, k < m.losses.length → (r.stands.getD k default).llo ≤ m.losses.getD k 0 ∧ m.losses.getD k 0 ≤ (r.stands.getD k default).lhi
theorem losE_ok {st : List PStand} : ∀ {l : List Int} {i : Nat}, (losE st i l).2 = 0 → ∀ k, k < l.length → (st.getD (i + k) default).llo ≤ l.getD k 0 ∧ l.getD k 0 ≤ (st.getD (i + k) default).lhi
  | [], _, _, k, hk => by simp at hk
  | n :: l, i, h, k, hk => by
    simp only [losE] at h
    by_cases c : withinV n (st.getD i default).llo (st.getD i default).lhi = true
    · rw [if_pos c] at h
      cases k with
      | zero => simpa using wi2.1 c
      | succ k => have := losE_ok h k (by simpa using hk); rw [Nat.add_right_comm, Nat.add_assoc] at this; simpa using this
    · rw [if_neg c] at h; cases h
theorem mat_ok {r : PRules} {m : PMat} (h : (matE r m).2 = 0) : MatOk r m := by
  by_cases c : matH r m = 0
  · rw [matE0 c] at h
    obtain ⟨h1, h2⟩ := matH_ok c
    simp only [matR, Bool.and_eq_true, wi2] at h1
    exact ⟨h1.1.1, h1.1.2, h1.2, h2, fun k hk => by simpa using losE_ok h k hk⟩
  · rw [matE1 c] at h; exact (c h).elim
theorem one_ok {r : PRules} {m : PMat} (hr : RulOk r) (h : MatOk r m) : RulOk (oneR r m) := by
  have a1 := hr.slo
  have a2 := hr.shi
  have a3 := hr.flo
  have a4 := hr.fhi
  have a5 := hr.hlo
  have a6 := hr.hhi
  have b1 := h.st
  have b2 := h.fr
  have b3 := h.ht
  exact { width := hr.width, start := hr.start, finish := hr.finish
          hlo := (by show 0 ≤ m.heat ∧ m.heat ≤ 20000; omega), hhi := (by show 0 ≤ m.heat ∧ m.heat ≤ 20000; omega), cold := hr.cold
          slo := (by show 1 ≤ m.stress ∧ m.stress ≤ 100; omega), shi := (by show 1 ≤ m.stress ∧ m.stress ≤ 100; omega)
          flo := (by show 0 ≤ m.friction ∧ m.friction ≤ 100; omega), fhi := (by show 0 ≤ m.friction ∧ m.friction ≤ 100; omega)
          fs := hr.fs, hle := Int.le_refl _, sle := Int.le_refl _, fle := Int.le_refl _
          len := (by show 1 ≤ (stN r.stands m.losses r.stands.length).length ∧ _; rw [show (oneR r m).stands = stN r.stands m.losses r.stands.length from rfl, stN_len]; exact hr.len)
          std := fun i hi => by
            rw [show (oneR r m).stands = stN r.stands m.losses r.stands.length from rfl] at hi ⊢
            rw [stN_len] at hi
            rw [stN_at (Nat.le_refl _), if_pos hi]
            have hs := hr.std i hi
            have hl := h.los i (by rw [h.len]; exact hi)
            have l1 := hs.llo
            have l2 := hs.lhi
            have h0 : 0 ≤ m.losses.getD i 0 ∧ m.losses.getD i 0 ≤ 1000 := by omega
            exact ⟨hs.rad, hs.force, hs.torque, h0, h0, Int.le_refl _⟩ }
theorem sch_one {r : PRules} {m : PMat} {s : PSched} (hS : SchOk r s) : SchOk (oneR r m) s :=
  ⟨hS.name, by rw [show (oneR r m).stands = stN r.stands m.losses r.stands.length from rfl, stN_len]; exact hS.len, hS.th, hS.last⟩
def sumM (ls : List Int) : Nat → Int
  | 0 => 0
  | i + 1 => sumM ls i + ls.getD i 0
theorem sum_one {r : PRules} {m : PMat} : ∀ {n : Nat}, n ≤ r.stands.length → sumT (oneR r m).stands n = (sumM m.losses n, sumM m.losses n)
  | 0, _ => rfl
  | n + 1, h => by
    simp only [sumT, sumM]
    rw [sum_one (by omega), show (oneR r m).stands = stN r.stands m.losses r.stands.length from rfl, stN_at (Nat.le_refl _), if_pos (by omega)]
    rfl
def matW (r : PRules) (s : PSched) (m : PMat) (k : Nat) : Int := warmV r.start (s.ths.getD k 0) m.heat (sumM m.losses (k + 1)) m.stress
def matL (r : PRules) (s : PSched) (m : PMat) (n : Nat) : List (Int × Int) := (List.range n).map fun k => lowV (matW r s m k) 100
theorem matL_len {r : PRules} {s : PSched} {m : PMat} {n : Nat} : (matL r s m n).length = n := by simp [matL]
def keepK (r : PRules) (s : PSched) (m : PMat) (k : Nat) : Bool := !lowQ (marS (oneR r m) s k)
def keepV (r : PRules) (s : PSched) (m : PMat) (n : Nat) : Bool := !lowQ (margs (oneR r m) s n)
theorem keepV_succ {r : PRules} {s : PSched} {m : PMat} {n : Nat} : keepV r s m (n + 1) = (keepV r s m n && keepK r s m n) := by
  simp only [keepV, keepK, margs_succ, lowQ, List.any_append, Bool.not_or]
end Go.Vm
