import Derived.Test.YtafnpnopefamkaaVpJ
set_option linter.all false
namespace Go.Vm
open Go.Proofs
set_option maxRecDepth 20000
set_option maxHeartbeats 8000000
theorem chain {ps : List (Int × Int)} (h : TabOk ps) {i : Nat} : ∀ {j : Nat}, i ≤ j → j < ps.length → (ps.getD i default).1 ≤ (ps.getD j default).1 ∧ (ps.getD i default).2 ≤ (ps.getD j default).2 ∧ (ps.getD j default).2 - (ps.getD i default).2 ≤ (ps.getD j default).1 - (ps.getD i default).1
  | 0, hij, hj => by rw [show i = 0 by omega]; omega
  | j + 1, hij, hj => by
    by_cases he : i = j + 1
    · subst he; omega
    · have h1 := chain h (i := i) (j := j) (by omega) (by omega)
      have h2 := h.srt (j + 1) (by omega) hj
      rw [Nat.add_sub_cancel] at h2
      omega
theorem piece {dy dt x : Int} (h0 : 0 ≤ dy) (h1 : dy ≤ dt) (h2 : 0 < dt) (hx : 0 ≤ x) (hx' : x ≤ dt) : 0 ≤ dy * x / dt ∧ dy * x / dt ≤ x ∧ dy * x / dt ≤ dy ∧ dy - dy * x / dt ≤ dt - x := by
  have e1 : dy * x ≤ dt * x := Int.mul_le_mul_of_nonneg_right h1 hx
  have e2 : dy * x ≤ dy * dt := Int.mul_le_mul_of_nonneg_left hx' h0
  have e3 : dy * (dt - x) ≤ dt * (dt - x) := Int.mul_le_mul_of_nonneg_right h1 (by omega)
  refine ⟨Int.ediv_nonneg (Int.mul_nonneg h0 hx) (by omega), ?_, ?_, ?_⟩
  · exact Int.ediv_le_of_le_mul h2 (by rw [Int.mul_comm x dt]; exact e1)
  · exact Int.ediv_le_of_le_mul h2 e2
  · have : dy - (dt - x) ≤ dy * x / dt := by
      rw [Int.le_ediv_iff_mul_le h2]
      rw [Int.mul_sub, Int.mul_sub] at e3
      rw [Int.sub_mul, Int.sub_mul]
      rw [Int.mul_comm x dt]
      omega
    omega
theorem piece2 {dy dt x y : Int} (h0 : 0 ≤ dy) (h1 : dy ≤ dt) (h2 : 0 < dt) (hxy : x ≤ y) : dy * x / dt ≤ dy * y / dt ∧ dy * y / dt - dy * x / dt ≤ y - x := by
  have e1 : dy * x ≤ dy * y := Int.mul_le_mul_of_nonneg_left hxy h0
  have e2 : dy * (y - x) ≤ dt * (y - x) := Int.mul_le_mul_of_nonneg_right h1 (by omega)
  refine ⟨Int.ediv_le_ediv h2 e1, ?_⟩
  have e3 : dy * y / dt ≤ (dy * x + dt * (y - x)) / dt := Int.ediv_le_ediv h2 (by rw [Int.mul_sub] at e2; omega)
  rw [Int.add_mul_ediv_left _ _ (by omega)] at e3
  omega
theorem rad_lip {ps : List (Int × Int)} (h : TabOk ps) {s t : Int} (hst : s ≤ t) : radV ps s ≤ radV ps t ∧ radV ps t - radV ps s ≤ t - s := by
  have hlen := h.len
  rcases rad_cases h s with ⟨a1, a2⟩ | ⟨a1, a2⟩ | ⟨k, k0, kl, k2, k3, k1⟩ <;> rcases rad_cases h t with ⟨b1, b2⟩ | ⟨b1, b2⟩ | ⟨m, m0, ml, m2, m3, m1⟩
  · omega
  · have := chain h (i := 0) (j := ps.length - 1) (by omega) (by omega); omega
  · have := chain h (i := m) (j := ps.length - 1) (by omega) (by omega); omega
  · have := chain h (i := 0) (j := ps.length - 1) (by omega) (by omega); omega
  · omega
  · have c1 := chain h (i := 0) (j := m - 1) (by omega) (by omega)
    have c2 := h.srt m m0 ml
    have c3 := piece (dy := (ps.getD m default).2 - (ps.getD (m - 1) default).2) (dt := (ps.getD m default).1 - (ps.getD (m - 1) default).1) (x := t - (ps.getD (m - 1) default).1) (by omega) (by omega) (by omega) (by omega) (by omega)
    omega
  · have c1 := chain h (i := k) (j := ps.length - 1) (by omega) (by omega)
    have c2 := h.srt k k0 kl
    have c3 := piece (dy := (ps.getD k default).2 - (ps.getD (k - 1) default).2) (dt := (ps.getD k default).1 - (ps.getD (k - 1) default).1) (x := s - (ps.getD (k - 1) default).1) (by omega) (by omega) (by omega) (by omega) (by omega)
    omega
  · have c1 := chain h (i := 0) (j := k - 1) (by omega) (by omega); omega
  · have c2 := h.srt k k0 kl
    have c3 := piece (dy := (ps.getD k default).2 - (ps.getD (k - 1) default).2) (dt := (ps.getD k default).1 - (ps.getD (k - 1) default).1) (x := s - (ps.getD (k - 1) default).1) (by omega) (by omega) (by omega) (by omega) (by omega)
    have d2 := h.srt m m0 ml
    have d3 := piece (dy := (ps.getD m default).2 - (ps.getD (m - 1) default).2) (dt := (ps.getD m default).1 - (ps.getD (m - 1) default).1) (x := t - (ps.getD (m - 1) default).1) (by omega) (by omega) (by omega) (by omega) (by omega)
    rcases Nat.lt_trichotomy k m with hkm | hkm | hkm
    · have c1 := chain h (i := k) (j := m - 1) (by omega) (by omega)
      omega
    · subst hkm
      have c4 := piece2 (dy := (ps.getD k default).2 - (ps.getD (k - 1) default).2) (dt := (ps.getD k default).1 - (ps.getD (k - 1) default).1) (x := s - (ps.getD (k - 1) default).1) (y := t - (ps.getD (k - 1) default).1) (by omega) (by omega) (by omega) (by omega)
      omega
    · have c1 := chain h (i := m) (j := k - 1) (by omega) (by omega)
      omega
theorem end_mono {c d R n n' : Int} {r r' : Int} (hd : 0 < d) (hc : 0 ≤ c) (hcd : c ≤ d) (hn : n ≤ n') (h1 : r ≤ r') (h2 : r' - r ≤ n' - n) : n + c * (R - r) / d ≤ n' + c * (R - r') / d := by
  have e1 : c * (r' - r) ≤ d * (n' - n) := by
    have a1 : c * (r' - r) ≤ d * (r' - r) := Int.mul_le_mul_of_nonneg_right hcd (by omega)
    have a2 : d * (r' - r) ≤ d * (n' - n) := Int.mul_le_mul_of_nonneg_left h2 (by omega)
    omega
  have e2 : c * (R - r) / d ≤ (c * (R - r') + d * (n' - n)) / d := Int.ediv_le_ediv hd (by
    rw [show c * (R - r) = c * (R - r') + c * (r' - r) by rw [← Int.mul_add]; congr 1; omega]
    omega)
  rw [Int.add_mul_ediv_left _ _ (by omega)] at e2
  omega
theorem up_mono {ps : List (Int × Int)} (h : TabOk ps) {e set n n' : Int} (he : 0 ≤ e ∧ e ≤ 1000) (hn : n ≤ n') : upV ps e set n ≤ upV ps e set n' := by
  have := rad_lip h hn
  exact end_mono (by omega) he.1 he.2 hn this.1 this.2
theorem gain_assoc {ps : List (Int × Int)} {e set node b : Int} : gainV ps e set node * b = (e * b) * (radV ps set - radV ps node) := by
  unfold gainV; rw [Int.mul_assoc, Int.mul_comm (radV ps set - radV ps node) b, ← Int.mul_assoc]
theorem eb {e b : Int} (he : 0 ≤ e ∧ e ≤ 1000) (hb : 0 ≤ b ∧ b ≤ 1000) : 0 ≤ e * b ∧ e * b ≤ 1000000 := by
  have h1 := mul_bound (x := e) (y := b) (X := 1000) (Y := 1000) (by omega) (by omega) (by omega) (by omega)
  exact ⟨Int.mul_nonneg he.1 hb.1, by omega⟩
theorem low_mono {ps : List (Int × Int)} (h : TabOk ps) {e b set n n' : Int} (he : 0 ≤ e ∧ e ≤ 1000) (hb : 0 ≤ b ∧ b ≤ 1000) (hn : n ≤ n') : lowV ps b e set n ≤ lowV ps b e set n' := by
  have := rad_lip h hn
  unfold lowV
  rw [gain_assoc, gain_assoc]
  exact end_mono (by omega) (eb he hb).1 (eb he hb).2 hn this.1 this.2
theorem up_set {ps : List (Int × Int)} (h : TabOk ps) {e s s' n : Int} (he : 0 ≤ e ∧ e ≤ 1000) (hs : s ≤ s') : upV ps e s n ≤ upV ps e s' n := by
  have h1 := (rad_lip h hs).1
  have h2 : e * (radV ps s - radV ps n) / 1000 ≤ e * (radV ps s' - radV ps n) / 1000 := Int.ediv_le_ediv (by omega) (Int.mul_le_mul_of_nonneg_left (by omega) he.1)
  unfold upV gainV; omega
theorem low_set {ps : List (Int × Int)} (h : TabOk ps) {e b s s' n : Int} (he : 0 ≤ e ∧ e ≤ 1000) (hb : 0 ≤ b ∧ b ≤ 1000) (hs : s ≤ s') : lowV ps b e s n ≤ lowV ps b e s' n := by
  have h1 := (rad_lip h hs).1
  have h2 : (e * b) * (radV ps s - radV ps n) / 1000000 ≤ (e * b) * (radV ps s' - radV ps n) / 1000000 := Int.ediv_le_ediv (by omega) (Int.mul_le_mul_of_nonneg_left (by omega) (eb he hb).1)
  unfold lowV; rw [gain_assoc, gain_assoc]; omega
theorem up_same {ps : List (Int × Int)} {e s : Int} : upV ps e s s = s := by simp [upV, gainV]
theorem low_same {ps : List (Int × Int)} {e b s : Int} : lowV ps b e s s = s := by simp [lowV, gainV]
theorem up_btw {ps : List (Int × Int)} (h : TabOk ps) {e s n lo hi : Int} (he : 0 ≤ e ∧ e ≤ 1000) (h1 : lo ≤ n) (h2 : n ≤ hi) (h3 : lo ≤ s) (h4 : s ≤ hi) : lo ≤ upV ps e s n ∧ upV ps e s n ≤ hi := by
  have a1 := up_mono h (set := s) he h1
  have a2 := up_set h (n := lo) he h3
  have a3 := up_mono h (set := s) he h2
  have a4 := up_set h (n := hi) he h4
  rw [up_same] at a2 a4
  omega
theorem low_btw {ps : List (Int × Int)} (h : TabOk ps) {e b s n lo hi : Int} (he : 0 ≤ e ∧ e ≤ 1000) (hb : 0 ≤ b ∧ b ≤ 1000) (h1 : lo ≤ n) (h2 : n ≤ hi) (h3 : lo ≤ s) (h4 : s ≤ hi) : lo ≤ lowV ps b e s n ∧ lowV ps b e s n ≤ hi := by
  have a1 := low_mono h (set := s) he hb h1
  have a2 := low_set h (n := lo) he hb h3
  have a3 := low_mono h (set := s) he hb h2
  have a4 := low_set h (n := hi) he hb h4
  rw [low_same] at a2 a4
  omega
def endsV (xs : List Int) (l h : Int) : List Int := (xs.set 0 l).set (xs.length - 1) h
theorem ends_len {xs : List Int} {l h : Int} : (endsV xs l h).length = xs.length := by simp [endsV]
theorem ends_get {xs : List Int} {l h : Int} {j : Nat} (hj : j < xs.length) (h2 : 2 ≤ xs.length) : (endsV xs l h).getD j 0 = if j = xs.length - 1 then h else if j = 0 then l else xs.getD j 0 := by
  unfold endsV
  rw [gset, gset, List.length_set]
  by_cases h1 : j = xs.length - 1
  · rw [if_pos ⟨h1.symm, hj⟩, if_pos h1]
  · rw [if_neg (fun h => h1 h.1.symm), if_neg h1]
    by_cases h3 : j = 0
    · rw [if_pos ⟨h3.symm, hj⟩, if_pos h3]
    · rw [if_neg (fun h => h3 h.1.symm), if_neg h3]
theorem mixV_len {mix : Int} {xs : List Int} : (mixV mix xs).length = xs.length := by simp [mixV]
theorem mixV_get {mix : Int} {xs : List Int} {i : Nat} (h : i < xs.length) : (mixV mix xs).getD i 0 = mixAt mix xs i := by
  simp [mixV, List.getD, h]
theorem mixAt_mono {mix : Int} {xs ys : List Int} {i : Nat} (hm : 0 ≤ mix ∧ mix ≤ 50) (hl : ys.length = xs.length) (hi : i < xs.length) (h : ∀ j, j < xs.length → xs.getD j 0 ≤ ys.getD j 0) : mixAt mix xs i ≤ mixAt mix ys i := by
  unfold mixAt
  rw [hl]
  have h1 := Int.mul_le_mul_of_nonneg_left (h (i - 1) (by omega)) hm.1
  have h2 := Int.mul_le_mul_of_nonneg_left (h (min (xs.length - 1) (i + 1)) (by omega)) hm.1
  have h3 := Int.mul_le_mul_of_nonneg_left (h i hi) (show 0 ≤ 100 - 2 * mix by omega)
  exact Int.ediv_le_ediv (by omega) (by omega)
theorem mix_const {mix c : Int} : (mix * c + mix * c + (100 - 2 * mix) * c) / 100 = c := by
  rw [show mix * c + mix * c + (100 - 2 * mix) * c = 100 * c by rw [Int.sub_mul, Int.mul_assoc]; omega]
  exact Int.mul_ediv_cancel_left _ (by omega)
theorem mixAt_ge {mix c : Int} {xs : List Int} {i : Nat} (hm : 0 ≤ mix ∧ mix ≤ 50) (hi : i < xs.length) (h : ∀ j, j < xs.length → c ≤ xs.getD j 0) : c ≤ mixAt mix xs i := by
  have h1 := Int.mul_le_mul_of_nonneg_left (h (i - 1) (by omega)) hm.1
  have h2 := Int.mul_le_mul_of_nonneg_left (h (min (xs.length - 1) (i + 1)) (by omega)) hm.1
  have h3 := Int.mul_le_mul_of_nonneg_left (h i hi) (show 0 ≤ 100 - 2 * mix by omega)
  have := Int.ediv_le_ediv (a := mix * c + mix * c + (100 - 2 * mix) * c) (b := mix * xs.getD (i - 1) 0 + mix * xs.getD (min (xs.length - 1) (i + 1)) 0 + (100 - 2 * mix) * xs.getD i 0) (c := 100) (by omega) (by omega)
  rw [mix_const] at this
  exact this
theorem mixAt_le {mix c : Int} {xs : List Int} {i : Nat} (hm : 0 ≤ mix ∧ mix ≤ 50) (hi : i < xs.length) (h : ∀ j, j < xs.length → xs.getD j 0 ≤ c) : mixAt mix xs i ≤ c := by
  have h1 := Int.mul_le_mul_of_nonneg_left (h (i - 1) (by omega)) hm.1
  have h2 := Int.mul_le_mul_of_nonneg_left (h (min (xs.length - 1) (i + 1)) (by omega)) hm.1
  have h3 := Int.mul_le_mul_of_nonneg_left (h i hi) (show 0 ≤ 100 - 2 * mix by omega)
  have := Int.ediv_le_ediv (b := mix * c + mix * c + (100 - 2 * mix) * c) (a := mix * xs.getD (i - 1) 0 + mix * xs.getD (min (xs.length - 1) (i + 1)) 0 + (100 - 2 * mix) * xs.getD i 0) (c := 100) (by omega) (by omega)
  rw [mix_const] at this
  exact this
end Go.Vm
