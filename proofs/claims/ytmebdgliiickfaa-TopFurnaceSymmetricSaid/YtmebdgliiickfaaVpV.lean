import Derived.Test.YtmebdgliiickfaaVpU
import Derived.Test.YtmebdgliiickfaaVpM0
set_option linter.all false
namespace Go.Vm
open Go.Proofs
set_option maxRecDepth 20000
set_option maxHeartbeats 8000000
/-! Runs, in plain Lean. -/
def heatN (ps : List (Int × Int)) (mix b set e : Int) (xs : List Int) : Nat → List Int
  | 0 => xs
  | k + 1 => stepV ps mix b max (heatN ps mix b set e xs k) set [e]
def runN (ps : List (Int × Int)) (mix b e : Int) (xs : List Int) (route : List (Int × Int)) : Nat → List Int
  | 0 => xs
  | i + 1 => heatN ps mix b (route.getD i default).1 e (runN ps mix b e xs route i) (route.getD i default).2.toNat
def runL (ps : List (Int × Int)) (mix b e : Int) (xs : List Int) (route : List (Int × Int)) (n : Nat) : List (List Int) := (List.range n).map fun i => runN ps mix b e xs route (i + 1)
theorem runL_succ {ps : List (Int × Int)} {mix b e : Int} {xs : List Int} {route : List (Int × Int)} {n : Nat} : runL ps mix b e xs route (n + 1) = runL ps mix b e xs route n ++ [runN ps mix b e xs route (n + 1)] := by simp [runL, List.range_succ]
theorem runL_len {ps : List (Int × Int)} {mix b e : Int} {xs : List Int} {route : List (Int × Int)} {n : Nat} : (runL ps mix b e xs route n).length = n := by simp [runL]
/-- Nodes that are temperatures. -/
structure NodesI (n : Nat) (xs : List Int) : Prop where
  len : xs.length = n
  rng : BtwL 0 20000 xs
theorem NodesI.ok {n : Nat} {xs : List Int} (h : NodesI n xs) (h2 : 2 ≤ n ∧ n ≤ 8) : NodesOk xs := by
  have h1 := h.len
  exact ⟨by omega, by omega, fun i hi => by have := h.rng i hi; omega⟩
theorem nodesI_of {xs : List Int} {b : Int} (h : slabErrV xs b = 0) : NodesI xs.length xs := ⟨rfl, (slab_ok h).2.2⟩
theorem nodesI_step {ps : List (Int × Int)} {mix b set e : Int} {n : Nat} {xs : List Int} (h : TabOk ps) (hm : 0 ≤ mix ∧ mix ≤ 50) (hb : 0 ≤ b ∧ b ≤ 1000) (he : 0 ≤ e ∧ e ≤ 1000) (hs : 0 ≤ set ∧ set ≤ 20000) (h2 : 2 ≤ n) (hx : NodesI n xs) : NodesI n (stepV ps mix b max xs set [e]) := by
  have hl := hx.len
  refine ⟨by rw [step_len]; exact hl, fun j hj => ?_⟩
  rw [step_len] at hj
  exact step_btw h hm hb he (by omega) hs hx.rng hj
theorem nodesI_heat {ps : List (Int × Int)} {mix b set e : Int} {n : Nat} {xs : List Int} (h : TabOk ps) (hm : 0 ≤ mix ∧ mix ≤ 50) (hb : 0 ≤ b ∧ b ≤ 1000) (he : 0 ≤ e ∧ e ≤ 1000) (hs : 0 ≤ set ∧ set ≤ 20000) (h2 : 2 ≤ n) (hx : NodesI n xs) : ∀ k, NodesI n (heatN ps mix b set e xs k)
  | 0 => hx
  | k + 1 => nodesI_step h hm hb he hs h2 (nodesI_heat h hm hb he hs h2 hx k)
theorem nodesI_run {ps : List (Int × Int)} {mix b e : Int} {n : Nat} {xs : List Int} {route : List (Int × Int)} (h : TabOk ps) (hm : 0 ≤ mix ∧ mix ≤ 50) (hb : 0 ≤ b ∧ b ≤ 1000) (he : 0 ≤ e ∧ e ≤ 1000) (hr : ∀ i, i < route.length → 0 ≤ (route.getD i default).1 ∧ (route.getD i default).1 ≤ 20000) (h2 : 2 ≤ n) (hx : NodesI n xs) : ∀ k, k ≤ route.length → NodesI n (runN ps mix b e xs route k)
  | 0, _ => hx
  | k + 1, hk => nodesI_heat h hm hb he (hr k (by omega)) h2 (nodesI_run h hm hb he hr h2 hx k (by omega)) _
theorem fold_sum2 : ∀ {xs : List Int} {a : Int}, (∀ n ∈ xs, 0 ≤ n ∧ n ≤ 20000) → xs.length ≤ 1000 → 0 ≤ a → a + 20000 * xs.length ≤ 100000000 → xs.foldl (fun a x => IntKind.wrap .i64 (a + x)) a = a + sumI xs
  | [], a, _, _, _, _ => by simp [sumI]
  | n :: r, a, h, hl, h0, h1 => by
    have h2 := h n (by simp)
    simp only [List.length_cons] at h1 hl
    rw [List.foldl_cons, wr64 (by omega) (by omega), fold_sum2 (fun x hx => h x (List.mem_cons_of_mem _ hx)) (by omega) (by omega) (by omega), sumI]
    omega
theorem btw_mem {lo hi : Int} {xs : List Int} (h : BtwL lo hi xs) : ∀ n ∈ xs, lo ≤ n ∧ n ≤ hi := fun n hn => by
  obtain ⟨i, hi, rfl⟩ := List.getElem_of_mem hn
  have := h i hi
  simpa [List.getD, hi] using this
theorem sumI_btw : ∀ {r : List Int}, (∀ n ∈ r, 0 ≤ n ∧ n ≤ 20000) → 0 ≤ sumI r ∧ sumI r ≤ 20000 * r.length
  | [], _ => by simp [sumI]
  | n :: r, h => by
    have h1 := h n (by simp)
    have h2 := sumI_btw (r := r) fun x hx => h x (List.mem_cons_of_mem _ hx)
    simp only [sumI, List.length_cons]; omega
theorem sum_nodes {n : Nat} {xs : List Int} (h : NodesI n xs) (hn : n ≤ 8) : xs.foldl (fun a x => IntKind.wrap .i64 (a + x)) 0 = sumI xs ∧ 0 ≤ sumI xs ∧ sumI xs ≤ 160000 := by
  have h1 := h.len
  have h2 := btw_mem h.rng
  have h3 := sumI_btw h2
  rw [fold_sum2 h2 (by omega) (by omega) (by omega)]
  omega
def skidV (ps : List (Int × Int)) (mix b e : Int) (xs : List Int) (route : List (Int × Int)) : Int := (sumI (runN ps mix 1000 e xs route route.length) - sumI (runN ps mix b e xs route route.length)) / xs.length
end Go.Vm
