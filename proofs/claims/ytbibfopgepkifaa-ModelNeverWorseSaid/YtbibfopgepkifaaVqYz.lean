import Derived.Test.YtbibfopgepkifaaVqY
import Derived.Test.YtbibfopgepkifaaVqYb
import Derived.Test.YtbibfopgepkifaaVqYc
import Derived.Test.YtbibfopgepkifaaVqYd
set_option linter.all false
namespace Go.Vm
theorem law6 (ps : List (Int × Int)) (a b c d s v t : Int) (x : ByteArray) (rs : List (Int × Int)) : law6R ps a b c d s v t x rs := by
  rcases Nat.lt_or_ge 14 ps.length with h14 | h14
  · exact law6ufar ps a b c d s v t x rs h14
  cases k : decide ((rs.length : Int) ≤ 14) && decide ((x.size : Int) ≤ 30) with
  | false => exact law6umany ps a b c d s v t x rs h14 k
  | true =>
    have k' := k
    rw [Bool.and_eq_true, decide_eq_true_eq, decide_eq_true_eq] at k'
    have hs : x.size < 1000000 := by omega
    have hl : rs.length < 1000000 := by omega
    by_cases h : (rulesV ps a b c d s).2 = 0
    · have hR := rules_ok h
      rcases Int.lt_or_le 30 s with h3 | h3
      · exact law6usteps ps a b c d s v t x rs h14 k hs hl h h3
      by_cases z : corrV s v t = 0
      · by_cases hc : (coilV x rs).2 = 0
        · have hr := (reads_ok hc).1
          have hvt := corr_ok z
          rcases Int.lt_or_le 999900 v with hv | hv
          · exact law6uver ps a b c d s v t x rs h14 k hs hl h h3 z hc hv
          · cases m1 : smP (lossV ps a b c d (bestS (fun t => lossV ps a b c d t rs) s) rs) (b * d) with
            | true =>
              cases m2 : smP (lossV ps a b c d t rs) (b * d) with
              | true => exact law6uok1 ps a b c d s v t x rs _ rfl h14 k hs hl h hR h3 z hc hr hvt.1.1 hv hvt.2 m1 m2
              | false => exact law6uok2 ps a b c d s v t x rs _ rfl h14 k hs hl h hR h3 z hc hr hvt.1.1 hv hvt.2 m1 m2
            | false =>
              cases m2 : smP (lossV ps a b c d t rs) (b * d) with
              | true => exact law6uok3 ps a b c d s v t x rs _ rfl h14 k hs hl h hR h3 z hc hr hvt.1.1 hv hvt.2 m1 m2
              | false => exact law6uok4 ps a b c d s v t x rs _ rfl h14 k hs hl h hR h3 z hc hr hvt.1.1 hv hvt.2 m1 m2
        · exact law6ucoil ps a b c d s v t x rs h14 k hs hl h h3 z hc
      · exact law6ucorr ps a b c d s v t x rs h14 k hs hl h h3 z
    · exact law6urules ps a b c d s v t x rs h14 k hs hl h
end Go.Vm
