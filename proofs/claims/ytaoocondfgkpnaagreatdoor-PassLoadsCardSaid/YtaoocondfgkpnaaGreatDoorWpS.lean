import Derived.Test.YtaoocondfgkpnaaGreatDoorWpD
import Derived.Test.YtaoocondfgkpnaaGreatDoorWpE
set_option linter.all false
/- Schedules: plain laws. -/
namespace Go.Vm
open Go.Proofs
structure PSched where
  name : ByteArray
  ths : List Int
abbrev schV (s : PSched) : V := .agg [.s s.name, .sl (s.ths.map nn)]
def thE (last n : Int) : Int := firstV [if withinV n 1 1000 then 0 else 2, if decide (n ≤ last) then 0 else 9]
def thsE (fin : Int) : Int → Int → List Int → Int × Int
  | i, last, [] => if last = fin then (0, 0) else (i - 1, 14)
  | i, last, n :: l => if thE last n = 0 then thsE fin (i + 1) n l else (i, thE last n)
def schH (r : PRules) (s : PSched) : Int := firstV [if nameV s.name then 0 else 4, if decide ((s.ths.length : Int) = r.stands.length) then 0 else 10]
def schE (r : PRules) (s : PSched) : Int × Int := if schH r s = 0 then thsE r.finish 0 r.start s.ths else (0, schH r s)
def bothE (r : PRules) (s : PSched) : Int × Int := if (rulesE r).2 = 0 then schE r s else (0, (rulesE r).2)
theorem ths_step {fin last : Int} {i : Nat} {l : List Int} (h : i < l.length) : thsE fin i last (l.drop i) = if thE last (l.getD i 0) = 0 then thsE fin ((i + 1 : Nat) : Int) (l.getD i 0) (l.drop (i + 1)) else ((i : Int), thE last (l.getD i 0)) := by
  rw [dropS 0 h]; simp only [thsE]; norm_cast
theorem ths_end {fin last i : Int} {l : List Int} {n : Nat} (h : l.length ≤ n) : thsE fin i last (l.drop n) = if last = fin then (0, 0) else (i - 1, 14) := by
  rw [List.drop_of_length_le h]; rfl
theorem schE0 {r : PRules} {s : PSched} (h : schH r s = 0) : schE r s = thsE r.finish 0 r.start s.ths := by rw [schE, if_pos h]
theorem schE1 {r : PRules} {s : PSched} (h : schH r s ≠ 0) : schE r s = (0, schH r s) := by rw [schE, if_neg h]
theorem bothE0 {r : PRules} {s : PSched} (h : (rulesE r).2 = 0) : bothE r s = schE r s := by rw [bothE, if_pos h]
theorem bothE1 {r : PRules} {s : PSched} (h : (rulesE r).2 ≠ 0) : bothE r s = (0, (rulesE r).2) := by rw [bothE, if_neg h]
theorem schH_len {r : PRules} {s : PSched} (h : schH r s = 0) : s.ths.length = r.stands.length := by
  by_cases c1 : nameV s.name = true
  · by_cases c2 : (s.ths.length : Int) = r.stands.length
    · omega
    · unfold schH at h; simp only [c1, c2, firstV_cons, firstV_nil, if_true, decide_false, Bool.false_eq_true, if_false] at h; cases h
  · unfold schH at h; simp only [c1, firstV_cons, if_false] at h; cases h
end Go.Vm
