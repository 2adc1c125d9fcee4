import Derived.Test.YtafnpnopefamkaaVpR
set_option linter.all false
namespace Go.Vm
open Go.Proofs
set_option maxRecDepth 20000
set_option maxHeartbeats 8000000
theorem ends_ends {xs : List Int} {l h l' h' : Int} (h2 : 2 ≤ xs.length) : ((endsV xs l h).set 0 l').set (xs.length - 1) h' = endsV xs l' h' := by
  apply List.ext_getElem?
  intro j
  simp only [endsV, List.getElem?_set, List.length_set]
  by_cases h1 : xs.length - 1 = j
  · simp [h1]
  · by_cases h3 : 0 = j <;> simp [h1, h3]
theorem step2ueq {ps : List (Int × Int)} {mix b set e e' : Int} {pf : Int → Int → Int} {xs : List Int} (h2 : 2 ≤ xs.length) : stepV ps mix b pf xs set [e, e'] = mixV mix (endsV xs (pf (lowV ps b e' set (xs.getD 0 0)) (lowV ps b e set (xs.getD 0 0))) (pf (upV ps e' set (xs.getD (xs.length - 1) 0)) (upV ps e set (xs.getD (xs.length - 1) 0)))) := by
  have e1 : (endsV xs (lowV ps b e set (xs.getD 0 0)) (upV ps e set (xs.getD (xs.length - 1) 0))).getD 0 0 = lowV ps b e set (xs.getD 0 0) := by
    rw [ends_get (by omega) h2, if_neg (by omega), if_pos rfl]
  have e2 : ((endsV xs (lowV ps b e set (xs.getD 0 0)) (upV ps e set (xs.getD (xs.length - 1) 0))).set 0 (pf (lowV ps b e' set (xs.getD 0 0)) (lowV ps b e set (xs.getD 0 0)))).getD (xs.length - 1) 0 = upV ps e set (xs.getD (xs.length - 1) 0) := by
    rw [gset, if_neg (by omega), ends_get (by omega) h2, if_pos rfl]
  have e3 : (endsV xs (lowV ps b e set (xs.getD 0 0)) (upV ps e set (xs.getD (xs.length - 1) 0))).getD (xs.length - 1) 0 = upV ps e set (xs.getD (xs.length - 1) 0) := by
    rw [ends_get (by omega) h2, if_pos rfl]
  show mixV mix (((endsV xs (lowV ps b e set (xs.getD 0 0)) (upV ps e set (xs.getD (xs.length - 1) 0))).set 0 (pf (lowV ps b e' set (xs.getD 0 0)) ((endsV xs (lowV ps b e set (xs.getD 0 0)) (upV ps e set (xs.getD (xs.length - 1) 0))).getD 0 0))).set (xs.length - 1) (pf (upV ps e' set (xs.getD (xs.length - 1) 0)) ((endsV xs (lowV ps b e set (xs.getD 0 0)) (upV ps e set (xs.getD (xs.length - 1) 0))).getD (xs.length - 1) 0))) = _
  rw [e1, e3, ends_ends h2]
def BtwL (lo hi : Int) (xs : List Int) : Prop := ∀ j, j < xs.length → lo ≤ xs.getD j 0 ∧ xs.getD j 0 ≤ hi
def LeL (xs ys : List Int) : Prop := ys.length = xs.length ∧ ∀ j, j < xs.length → xs.getD j 0 ≤ ys.getD j 0
theorem mix_le {mix : Int} {xs ys : List Int} (hm : 0 ≤ mix ∧ mix ≤ 50) (h : LeL xs ys) : LeL (mixV mix xs) (mixV mix ys) := by
  refine ⟨by rw [mixV_len, mixV_len]; exact h.1, fun j hj => ?_⟩
  rw [mixV_len] at hj
  rw [mixV_get hj, mixV_get (by rw [h.1]; exact hj)]
  exact mixAt_mono hm h.1 hj h.2
theorem mix_btw {mix lo hi : Int} {xs : List Int} (hm : 0 ≤ mix ∧ mix ≤ 50) (h : BtwL lo hi xs) : BtwL lo hi (mixV mix xs) := by
  intro j hj
  rw [mixV_len] at hj
  rw [mixV_get hj]
  exact ⟨mixAt_ge hm hj fun k hk => (h k hk).1, mixAt_le hm hj fun k hk => (h k hk).2⟩
theorem ends_le {xs ys : List Int} {l h l' h' : Int} (h2 : 2 ≤ xs.length) (hx : LeL xs ys) (hl : l ≤ l') (hh : h ≤ h') : LeL (endsV xs l h) (endsV ys l' h') := by
  have h1 := hx.1
  refine ⟨by rw [ends_len, ends_len]; exact h1, fun j hj => ?_⟩
  rw [ends_len] at hj
  rw [ends_get hj h2, ends_get (by omega) (by omega), h1]
  split
  · exact hh
  · split
    · exact hl
    · exact hx.2 j hj
theorem ends_btw {xs : List Int} {l h lo hi : Int} (h2 : 2 ≤ xs.length) (hx : BtwL lo hi xs) (hl : lo ≤ l ∧ l ≤ hi) (hh : lo ≤ h ∧ h ≤ hi) : BtwL lo hi (endsV xs l h) := by
  intro j hj
  rw [ends_len] at hj
  rw [ends_get hj h2]
  split
  · exact hh
  · split
    · exact hl
    · exact hx j hj
structure EncI (n : Nat) (x : List Int × List Int) : Prop where
  len : x.1.length = n
  le : LeL x.1 x.2
  lo : BtwL 0 20000 x.1
  hi : BtwL 0 20000 x.2
theorem EncI.ok {n : Nat} {x : List Int × List Int} (h : EncI n x) (h2 : 2 ≤ n ∧ n ≤ 8) : BothOk x := by
  have h1 := h.len
  have h3 := h.le.1
  exact ⟨⟨by omega, by omega, fun i hi => by have := h.lo i hi; omega⟩, ⟨by omega, by omega, fun i hi => by have := h.hi i hi; omega⟩⟩
theorem encI_step {ps : List (Int × Int)} {mix lo hi b set : Int} {n : Nat} {x : List Int × List Int} (h : TabOk ps) (hm : 0 ≤ mix ∧ mix ≤ 50) (hb : 0 ≤ b ∧ b ≤ 1000) (hlo : 0 ≤ lo ∧ lo ≤ 1000) (hhi : 0 ≤ hi ∧ hi ≤ 1000) (hs : 0 ≤ set ∧ set ≤ 20000) (h2 : 2 ≤ n) (hx : EncI n x) : EncI n (encStep ps mix lo hi b set x) := by
  have hl := hx.len
  have hl2 := hx.le.1
  have l0 := hx.lo 0 (by omega)
  have l1 := hx.lo (x.1.length - 1) (by omega)
  have h0 := hx.hi 0 (by omega)
  have h1 := hx.hi (x.2.length - 1) (by omega)
  have p0 := hx.le.2 0 (by omega)
  have p1 := hx.le.2 (x.1.length - 1) (by omega)
  rw [← hl2] at p1
  have a1 := low_btw h hlo hb l0.1 l0.2 hs.1 hs.2
  have a2 := low_btw h hhi hb l0.1 l0.2 hs.1 hs.2
  have a3 := up_btw h hlo l1.1 l1.2 hs.1 hs.2
  have a4 := up_btw h hhi l1.1 l1.2 hs.1 hs.2
  have b1 := low_btw h hlo hb h0.1 h0.2 hs.1 hs.2
  have b2 := low_btw h hhi hb h0.1 h0.2 hs.1 hs.2
  have b3 := up_btw h hlo h1.1 h1.2 hs.1 hs.2
  have b4 := up_btw h hhi h1.1 h1.2 hs.1 hs.2
  have c1 := low_mono h (set := set) hlo hb p0
  have c3 := up_mono h (set := set) hlo p1
  rw [hl2] at h1 b3 b4 c3 p1
  unfold encStep
  rw [step2ueq (by omega), step2ueq (by omega)]
  simp only [hl2]
  refine ⟨?_, ?_, ?_, ?_⟩
  · simp only; rw [mixV_len, ends_len]; exact hl
  · exact mix_le hm (ends_le (by omega) hx.le (by omega) (by omega))
  · exact mix_btw hm (ends_btw (by omega) hx.lo (by omega) (by omega))
  · exact mix_btw hm (ends_btw (by omega) hx.hi (by omega) (by omega))
theorem encI_steps {ps : List (Int × Int)} {mix lo hi b set : Int} {n : Nat} {x : List Int × List Int} (h : TabOk ps) (hm : 0 ≤ mix ∧ mix ≤ 50) (hb : 0 ≤ b ∧ b ≤ 1000) (hlo : 0 ≤ lo ∧ lo ≤ 1000) (hhi : 0 ≤ hi ∧ hi ≤ 1000) (hs : 0 ≤ set ∧ set ≤ 20000) (h2 : 2 ≤ n) (hx : EncI n x) : ∀ k, EncI n (encSteps ps mix lo hi b set x k)
  | 0 => hx
  | k + 1 => encI_step h hm hb hlo hhi hs h2 (encI_steps h hm hb hlo hhi hs h2 hx k)
theorem encI_n {ps : List (Int × Int)} {mix lo hi b : Int} {n : Nat} {x : List Int × List Int} {route : List (Int × Int)} (h : TabOk ps) (hm : 0 ≤ mix ∧ mix ≤ 50) (hb : 0 ≤ b ∧ b ≤ 1000) (hlo : 0 ≤ lo ∧ lo ≤ 1000) (hhi : 0 ≤ hi ∧ hi ≤ 1000) (hr : ∀ i, i < route.length → 0 ≤ (route.getD i default).1 ∧ (route.getD i default).1 ≤ 20000) (h2 : 2 ≤ n) (hx : EncI n x) : ∀ k, k ≤ route.length → EncI n (encN ps mix lo hi b x route k)
  | 0, _ => hx
  | k + 1, hk => encI_steps h hm hb hlo hhi (hr k (by omega)) h2 (encI_n h hm hb hlo hhi hr h2 hx k (by omega)) _
theorem encI_start {xs : List Int} {b : Int} (h : slabErrV xs b = 0) : EncI xs.length (xs, xs) :=
  ⟨rfl, ⟨rfl, fun _ _ => Int.le_refl _⟩, (slab_ok h).2.2, (slab_ok h).2.2⟩
end Go.Vm
