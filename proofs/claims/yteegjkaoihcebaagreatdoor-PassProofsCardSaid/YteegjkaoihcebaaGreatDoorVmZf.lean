import Derived.Test.YteegjkaoihcebaaGreatDoorVmBC
set_option linter.all false
namespace Go.Vm
variable {gs : List (Nat × L)} {ms : List (Key × M)} {d j es : Nat} {e : TypeId} {rows : List Row} {m : M}
theorem of_tab_swapP {p : List (Key × M)} {k : Key} {x : M} (h : ∀ m, look k m (tabW d e es rows) = m) : VS.of gs (p ++ (k, x) :: tabL d e es rows ms) = VS.of gs (p ++ tabL d e es rows ((k, x) :: ms)) := by
 refine VS.same (fun _ => rfl) fun k' => ?_
 simp only [of_mem, look_append]
 congr 1
 simp only [tabL, look, look_append]
 by_cases hk : k' = k
 ·
  subst hk; rw [if_pos rfl, h]; simp
 ·
  rw [if_neg hk, if_neg hk]
def offT (d : Nat) : Key → Prop
 | .a t => t < 1000000
 | .f t => t < 1000000 ∧ t ≠ d
 | .b t => t ≠ d
 | .c t _ => t ≠ d
 | .v _ => True
 | .y => True
theorem offT_a {t : Nat} (h : t < 1000000) : offT d (.a t) = True := eq_true h
theorem offT_f {t : Nat} (h : t < 1000000) (h' : (t = d) = False) : offT d (.f t) = True := eq_true ⟨h, fun e => by simp [e] at h'⟩
theorem offT_b {t : Nat} (h' : (t = d) = False) : offT d (.b t) = True := eq_true (show t ≠ d from fun e => by simp [e] at h')
theorem offT_c {t : Nat} (h' : (t = d) = False) : offT d (.c t j) = True := eq_true (show t ≠ d from fun e => by simp [e] at h')
theorem offT_v {t : Nat} : offT d (.v t) = True := rfl
theorem offT_y : offT d .y = True := rfl
theorem far_k {k : Key} (h : offT d k) : ∀ m, look k m (tabW d e es rows) = m := fun m => by
 cases k with
 | a t =>
  refine tabW_other (by simp) (by simp) (by simp) (fun j e => ?_) (by simp)
  simp only [Key.a.injEq] at e
  have h : t < 1000000 := h
  unfold rs at e; omega
 | f t =>
  obtain ⟨h1, h2⟩ : t < 1000000 ∧ t ≠ d := h
  refine tabW_other (by simp) (by simp [h2]) (by simp) (by simp) (fun j e => ?_)
  simp only [Key.f.injEq] at e
  unfold rs at e; omega
 | b t =>
  have h' : t ≠ d := h
  exact tabW_other (by simp [h']) (by simp) (by simp) (by simp) (by simp)
 | c t j =>
  have h' : t ≠ d := h
  exact tabW_other (by simp) (by simp) (by simp [h']) (by simp) (by simp)
 | v t => exact tabW_other (by simp) (by simp) (by simp) (by simp) (by simp)
 | y => exact tabW_other (by simp) (by simp) (by simp) (by simp) (by simp)
theorem sw_1 {p0 : Key × M} {k : Key} {x : M} (h : offT d k) : VS.of gs (p0 :: (k, x) :: tabL d e es rows ms) = VS.of gs (p0 :: tabL d e es rows ((k, x) :: ms)) := of_tab_swapP (p := [p0]) (far_k h)
theorem sw_2 {p0 p1 : Key × M} {k : Key} {x : M} (h : offT d k) : VS.of gs (p0 :: p1 :: (k, x) :: tabL d e es rows ms) = VS.of gs (p0 :: p1 :: tabL d e es rows ((k, x) :: ms)) := of_tab_swapP (p := [p0, p1]) (far_k h)
theorem sw_3 {p0 p1 p2 : Key × M} {k : Key} {x : M} (h : offT d k) : VS.of gs (p0 :: p1 :: p2 :: (k, x) :: tabL d e es rows ms) = VS.of gs (p0 :: p1 :: p2 :: tabL d e es rows ((k, x) :: ms)) := of_tab_swapP (p := [p0, p1, p2]) (far_k h)
theorem sw_4 {p0 p1 p2 p3 : Key × M} {k : Key} {x : M} (h : offT d k) : VS.of gs (p0 :: p1 :: p2 :: p3 :: (k, x) :: tabL d e es rows ms) = VS.of gs (p0 :: p1 :: p2 :: p3 :: tabL d e es rows ((k, x) :: ms)) := of_tab_swapP (p := [p0, p1, p2, p3]) (far_k h)
theorem sw_5 {p0 p1 p2 p3 p4 : Key × M} {k : Key} {x : M} (h : offT d k) : VS.of gs (p0 :: p1 :: p2 :: p3 :: p4 :: (k, x) :: tabL d e es rows ms) = VS.of gs (p0 :: p1 :: p2 :: p3 :: p4 :: tabL d e es rows ((k, x) :: ms)) := of_tab_swapP (p := [p0, p1, p2, p3, p4]) (far_k h)
theorem sw_6 {p0 p1 p2 p3 p4 p5 : Key × M} {k : Key} {x : M} (h : offT d k) : VS.of gs (p0 :: p1 :: p2 :: p3 :: p4 :: p5 :: (k, x) :: tabL d e es rows ms) = VS.of gs (p0 :: p1 :: p2 :: p3 :: p4 :: p5 :: tabL d e es rows ((k, x) :: ms)) := of_tab_swapP (p := [p0, p1, p2, p3, p4, p5]) (far_k h)
theorem sw_7 {p0 p1 p2 p3 p4 p5 p6 : Key × M} {k : Key} {x : M} (h : offT d k) : VS.of gs (p0 :: p1 :: p2 :: p3 :: p4 :: p5 :: p6 :: (k, x) :: tabL d e es rows ms) = VS.of gs (p0 :: p1 :: p2 :: p3 :: p4 :: p5 :: p6 :: tabL d e es rows ((k, x) :: ms)) := of_tab_swapP (p := [p0, p1, p2, p3, p4, p5, p6]) (far_k h)
theorem sw_8 {p0 p1 p2 p3 p4 p5 p6 p7 : Key × M} {k : Key} {x : M} (h : offT d k) : VS.of gs (p0 :: p1 :: p2 :: p3 :: p4 :: p5 :: p6 :: p7 :: (k, x) :: tabL d e es rows ms) = VS.of gs (p0 :: p1 :: p2 :: p3 :: p4 :: p5 :: p6 :: p7 :: tabL d e es rows ((k, x) :: ms)) := of_tab_swapP (p := [p0, p1, p2, p3, p4, p5, p6, p7]) (far_k h)
theorem sw_9 {p0 p1 p2 p3 p4 p5 p6 p7 p8 : Key × M} {k : Key} {x : M} (h : offT d k) : VS.of gs (p0 :: p1 :: p2 :: p3 :: p4 :: p5 :: p6 :: p7 :: p8 :: (k, x) :: tabL d e es rows ms) = VS.of gs (p0 :: p1 :: p2 :: p3 :: p4 :: p5 :: p6 :: p7 :: p8 :: tabL d e es rows ((k, x) :: ms)) := of_tab_swapP (p := [p0, p1, p2, p3, p4, p5, p6, p7, p8]) (far_k h)
theorem sw_10 {p0 p1 p2 p3 p4 p5 p6 p7 p8 p9 : Key × M} {k : Key} {x : M} (h : offT d k) : VS.of gs (p0 :: p1 :: p2 :: p3 :: p4 :: p5 :: p6 :: p7 :: p8 :: p9 :: (k, x) :: tabL d e es rows ms) = VS.of gs (p0 :: p1 :: p2 :: p3 :: p4 :: p5 :: p6 :: p7 :: p8 :: p9 :: tabL d e es rows ((k, x) :: ms)) := of_tab_swapP (p := [p0, p1, p2, p3, p4, p5, p6, p7, p8, p9]) (far_k h)
theorem sw_11 {p0 p1 p2 p3 p4 p5 p6 p7 p8 p9 p10 : Key × M} {k : Key} {x : M} (h : offT d k) : VS.of gs (p0 :: p1 :: p2 :: p3 :: p4 :: p5 :: p6 :: p7 :: p8 :: p9 :: p10 :: (k, x) :: tabL d e es rows ms) = VS.of gs (p0 :: p1 :: p2 :: p3 :: p4 :: p5 :: p6 :: p7 :: p8 :: p9 :: p10 :: tabL d e es rows ((k, x) :: ms)) := of_tab_swapP (p := [p0, p1, p2, p3, p4, p5, p6, p7, p8, p9, p10]) (far_k h)
theorem sw_12 {p0 p1 p2 p3 p4 p5 p6 p7 p8 p9 p10 p11 : Key × M} {k : Key} {x : M} (h : offT d k) : VS.of gs (p0 :: p1 :: p2 :: p3 :: p4 :: p5 :: p6 :: p7 :: p8 :: p9 :: p10 :: p11 :: (k, x) :: tabL d e es rows ms) = VS.of gs (p0 :: p1 :: p2 :: p3 :: p4 :: p5 :: p6 :: p7 :: p8 :: p9 :: p10 :: p11 :: tabL d e es rows ((k, x) :: ms)) := of_tab_swapP (p := [p0, p1, p2, p3, p4, p5, p6, p7, p8, p9, p10, p11]) (far_k h)
theorem sw_13 {p0 p1 p2 p3 p4 p5 p6 p7 p8 p9 p10 p11 p12 : Key × M} {k : Key} {x : M} (h : offT d k) : VS.of gs (p0 :: p1 :: p2 :: p3 :: p4 :: p5 :: p6 :: p7 :: p8 :: p9 :: p10 :: p11 :: p12 :: (k, x) :: tabL d e es rows ms) = VS.of gs (p0 :: p1 :: p2 :: p3 :: p4 :: p5 :: p6 :: p7 :: p8 :: p9 :: p10 :: p11 :: p12 :: tabL d e es rows ((k, x) :: ms)) := of_tab_swapP (p := [p0, p1, p2, p3, p4, p5, p6, p7, p8, p9, p10, p11, p12]) (far_k h)
theorem sw_14 {p0 p1 p2 p3 p4 p5 p6 p7 p8 p9 p10 p11 p12 p13 : Key × M} {k : Key} {x : M} (h : offT d k) : VS.of gs (p0 :: p1 :: p2 :: p3 :: p4 :: p5 :: p6 :: p7 :: p8 :: p9 :: p10 :: p11 :: p12 :: p13 :: (k, x) :: tabL d e es rows ms) = VS.of gs (p0 :: p1 :: p2 :: p3 :: p4 :: p5 :: p6 :: p7 :: p8 :: p9 :: p10 :: p11 :: p12 :: p13 :: tabL d e es rows ((k, x) :: ms)) := of_tab_swapP (p := [p0, p1, p2, p3, p4, p5, p6, p7, p8, p9, p10, p11, p12, p13]) (far_k h)
theorem of_same {gs : List (Nat × L)} {p a b : List (Key × M)} (h : VS.of gs a = VS.of gs b) : VS.of gs (p ++ a) = VS.of gs (p ++ b) := by
 have hm : ∀ k, look k .none a = look k .none b := fun k => by
  have := congrArg (fun s : VS => s.mem k) h
  simpa only [of_mem] using this
 refine VS.same (fun _ => rfl) fun k => ?_
 simp only [of_mem, look_append]
 rw [hm]
theorem tab_e0 {g : Nat} {xs : List V} (h : j < rows.length) (hg : (rowAt rows j).g = g) : VS.of gs ((.a (rs d j), .arr g e es xs) :: tabL d e es rows ms) = VS.of gs (tabL d e es (rows.set j ⟨(rowAt rows j).fz, g, xs⟩) ms) := by
 subst hg; exact tab_el h
theorem tab_e1 {p0 : Key × M} {g : Nat} {xs : List V} (h : j < rows.length) (hg : (rowAt rows j).g = g) : VS.of gs (p0 :: (.a (rs d j), .arr g e es xs) :: tabL d e es rows ms) = VS.of gs (p0 :: tabL d e es (rows.set j ⟨(rowAt rows j).fz, g, xs⟩) ms) := of_same (p := [p0]) (tab_e0 h hg)
theorem tab_e2 {p0 p1 : Key × M} {g : Nat} {xs : List V} (h : j < rows.length) (hg : (rowAt rows j).g = g) : VS.of gs (p0 :: p1 :: (.a (rs d j), .arr g e es xs) :: tabL d e es rows ms) = VS.of gs (p0 :: p1 :: tabL d e es (rows.set j ⟨(rowAt rows j).fz, g, xs⟩) ms) := of_same (p := [p0, p1]) (tab_e0 h hg)
theorem tab_e3 {p0 p1 p2 : Key × M} {g : Nat} {xs : List V} (h : j < rows.length) (hg : (rowAt rows j).g = g) : VS.of gs (p0 :: p1 :: p2 :: (.a (rs d j), .arr g e es xs) :: tabL d e es rows ms) = VS.of gs (p0 :: p1 :: p2 :: tabL d e es (rows.set j ⟨(rowAt rows j).fz, g, xs⟩) ms) := of_same (p := [p0, p1, p2]) (tab_e0 h hg)
theorem tab_e4 {p0 p1 p2 p3 : Key × M} {g : Nat} {xs : List V} (h : j < rows.length) (hg : (rowAt rows j).g = g) : VS.of gs (p0 :: p1 :: p2 :: p3 :: (.a (rs d j), .arr g e es xs) :: tabL d e es rows ms) = VS.of gs (p0 :: p1 :: p2 :: p3 :: tabL d e es (rows.set j ⟨(rowAt rows j).fz, g, xs⟩) ms) := of_same (p := [p0, p1, p2, p3]) (tab_e0 h hg)
theorem tab_e5 {p0 p1 p2 p3 p4 : Key × M} {g : Nat} {xs : List V} (h : j < rows.length) (hg : (rowAt rows j).g = g) : VS.of gs (p0 :: p1 :: p2 :: p3 :: p4 :: (.a (rs d j), .arr g e es xs) :: tabL d e es rows ms) = VS.of gs (p0 :: p1 :: p2 :: p3 :: p4 :: tabL d e es (rows.set j ⟨(rowAt rows j).fz, g, xs⟩) ms) := of_same (p := [p0, p1, p2, p3, p4]) (tab_e0 h hg)
theorem tab_e6 {p0 p1 p2 p3 p4 p5 : Key × M} {g : Nat} {xs : List V} (h : j < rows.length) (hg : (rowAt rows j).g = g) : VS.of gs (p0 :: p1 :: p2 :: p3 :: p4 :: p5 :: (.a (rs d j), .arr g e es xs) :: tabL d e es rows ms) = VS.of gs (p0 :: p1 :: p2 :: p3 :: p4 :: p5 :: tabL d e es (rows.set j ⟨(rowAt rows j).fz, g, xs⟩) ms) := of_same (p := [p0, p1, p2, p3, p4, p5]) (tab_e0 h hg)
theorem vslots_app : ∀ {a b : List (Key × M)}, vslots (a ++ b) = vslots a ++ vslots b
 | [], _ => rfl
 | (.v t, m) :: a, b => by simp only [List.cons_append, vslots, vslots_app]
 | (.c _ _, _) :: a, b => by simp only [List.cons_append, vslots, vslots_app]
 | (.b _, _) :: a, b => by simp only [List.cons_append, vslots, vslots_app]
 | (.f _, _) :: a, b => by simp only [List.cons_append, vslots, vslots_app]
 | (.a _, _) :: a, b => by simp only [List.cons_append, vslots, vslots_app]
 | (.y, _) :: a, b => by simp only [List.cons_append, vslots, vslots_app]
theorem dropv_app : ∀ {a b : List (Key × M)}, dropv (a ++ b) = dropv a ++ dropv b
 | [], _ => rfl
 | (.v t, m) :: a, b => by simp only [List.cons_append, dropv, dropv_app]
 | (.c _ _, _) :: a, b => by simp only [List.cons_append, dropv, dropv_app]
 | (.b _, _) :: a, b => by simp only [List.cons_append, dropv, dropv_app]
 | (.f _, _) :: a, b => by simp only [List.cons_append, dropv, dropv_app]
 | (.a _, _) :: a, b => by simp only [List.cons_append, dropv, dropv_app]
 | (.y, _) :: a, b => by simp only [List.cons_append, dropv, dropv_app]
theorem vslots_tabR : ∀ {l : List Row} {j : Nat}, vslots (tabR d e es j l) = []
 | [], _ => rfl
 | r :: l, j => by simp only [tabR, vslots]; exact vslots_tabR
theorem dropv_tabR : ∀ {l : List Row} {j : Nat}, dropv (tabR d e es j l) = tabR d e es j l
 | [], _ => rfl
 | r :: l, j => by simp only [tabR, dropv]; rw [dropv_tabR]
theorem vslots_tab : vslots (tabL d e es rows ms) = vslots ms := by
 simp only [tabL, vslots_app, tabW, vslots, List.cons_append, vslots_tabR, List.nil_append]
theorem dropv_tab : dropv (tabL d e es rows ms) = tabL d e es rows (dropv ms) := by
 simp only [tabL, dropv_app, tabW, dropv, List.cons_append, dropv_tabR]
theorem cells_bsl {s : Nat} : (L.bsl s).cells = [L.bsl s] := rfl
theorem all_bsl {s : Nat} : [L.bsl s].all L.isCell = true := rfl
theorem len_1 {x : L} : [x].length = 1 := rfl
def vt2 := And.intro @vslots_tab <| And.intro @dropv_tab <| And.intro @tab_e0 <| And.intro @tab_e1 <| And.intro @tab_e2 <| And.intro @tab_e3 <| And.intro @tab_e4 <| And.intro @tab_e5 <| And.intro @tab_e6 <| And.intro @cells_bsl <| And.intro @all_bsl <| And.intro @len_1 <| And.intro @offT_a <| And.intro @offT_f <| And.intro @offT_b <| And.intro @offT_c <| And.intro @offT_v <| And.intro @offT_y <| And.intro @sw_1 <| And.intro @sw_2 <| And.intro @sw_3 <| And.intro @sw_4 <| And.intro @sw_5 <| And.intro @sw_6 <| And.intro @sw_7 <| And.intro @sw_8 <| And.intro @sw_9 <| And.intro @sw_10 <| And.intro @sw_11 <| And.intro @sw_12 <| And.intro @sw_13 @sw_14
end Go.Vm
