import Derived.Test.YtfmghijmcgkpiaaGS0
import Derived.Test.YtfmghijmcgkpiaaE16
namespace Go.Proofs.Ytfmghijmcgkpiaa.GE
open Go.RowKit Go.Proofs.YtfmghijmcgkpiaaW.PrintWords Go.Proofs.YtfmghijmcgkpiaaW.PrintLast Go.Proofs.Ytfmghijmcgkpiaa.HandV Go.Proofs.YtfmghijmcgkpiaaW.PrintMore
open Go.Proofs.Ytfmghijmcgkpiaa.GS
attribute [local go_sem] max2_int min2_int max_two min_two max_three min_three max_four min_four   -- for this text's walks alone
set_option linter.unusedVariables false
set_option linter.unusedSimpArgs false
-- IMPORT .E16
theorem expr_row3 {w : World} {g t : Nat} {fr : Nat × Nat} (x0 x1 x2 : S67) {A0 A1 A2 : Option Addr} {c0 c1 c2 : Nat} (h : w.heap[g]? = some (.cells #[.int .i64 x0.f0, .bool x0.f1, .int .i64 x0.f2, .string x0.f3, .string x0.f4.f0, .string x0.f4.f1, .slice A0 x0.f5.length c0, .int .i64 x1.f0, .bool x1.f1, .int .i64 x1.f2, .string x1.f3, .string x1.f4.f0, .string x1.f4.f1, .slice A1 x1.f5.length c1, .int .i64 x2.f0, .bool x2.f1, .int .i64 x2.f2, .string x2.f3, .string x2.f4.f0, .string x2.f4.f1, .slice A2 x2.f5.length c2] t fr)) (l0 : x0.f5.length ≤ c0) (g0 : k67.C w A0 x0.f5.length x0.f5) (l1 : x1.f5.length ≤ c1) (g1 : k67.C w A1 x1.f5.length x1.f5) (l2 : x2.f5.length ≤ c2) (g2 : k67.C w A2 x2.f5.length x2.f5) : k67.C w (some ⟨g, 0, none⟩) 3 [x0, x1, x2] := by
  refine ⟨rfl, by omega, fun _ => ⟨⟨g, 0, none⟩, rfl, ?_⟩⟩
  intro j p hp
  have hj : j < 3 := (List.getElem?_eq_some_iff.1 hp).1
  match j, hj, hp with
  | 0, _, hp => injection hp with hp; subst hp; exact ⟨_, rfl, k67_mk w x0 l0 g0, fun i u hu => by have hi : i < 7 := (List.getElem?_eq_some_iff.1 hu).1; match i, hi, hu with | 0, _, hu => injection hu with hu; subst hu; exact hcell h 0 _ rfl | 1, _, hu => injection hu with hu; subst hu; exact hcell h 1 _ rfl | 2, _, hu => injection hu with hu; subst hu; exact hcell h 2 _ rfl | 3, _, hu => injection hu with hu; subst hu; exact hcell h 3 _ rfl | 4, _, hu => injection hu with hu; subst hu; exact hcell h 4 _ rfl | 5, _, hu => injection hu with hu; subst hu; exact hcell h 5 _ rfl | 6, _, hu => injection hu with hu; subst hu; exact hcell h 6 _ rfl⟩
  | 1, _, hp => injection hp with hp; subst hp; exact ⟨_, rfl, k67_mk w x1 l1 g1, fun i u hu => by have hi : i < 7 := (List.getElem?_eq_some_iff.1 hu).1; match i, hi, hu with | 0, _, hu => injection hu with hu; subst hu; exact hcell h 7 _ rfl | 1, _, hu => injection hu with hu; subst hu; exact hcell h 8 _ rfl | 2, _, hu => injection hu with hu; subst hu; exact hcell h 9 _ rfl | 3, _, hu => injection hu with hu; subst hu; exact hcell h 10 _ rfl | 4, _, hu => injection hu with hu; subst hu; exact hcell h 11 _ rfl | 5, _, hu => injection hu with hu; subst hu; exact hcell h 12 _ rfl | 6, _, hu => injection hu with hu; subst hu; exact hcell h 13 _ rfl⟩
  | 2, _, hp => injection hp with hp; subst hp; exact ⟨_, rfl, k67_mk w x2 l2 g2, fun i u hu => by have hi : i < 7 := (List.getElem?_eq_some_iff.1 hu).1; match i, hi, hu with | 0, _, hu => injection hu with hu; subst hu; exact hcell h 14 _ rfl | 1, _, hu => injection hu with hu; subst hu; exact hcell h 15 _ rfl | 2, _, hu => injection hu with hu; subst hu; exact hcell h 16 _ rfl | 3, _, hu => injection hu with hu; subst hu; exact hcell h 17 _ rfl | 4, _, hu => injection hu with hu; subst hu; exact hcell h 18 _ rfl | 5, _, hu => injection hu with hu; subst hu; exact hcell h 19 _ rfl | 6, _, hu => injection hu with hu; subst hu; exact hcell h 20 _ rfl⟩
theorem lt_heap {w : World} {g : Nat} {o : Obj} (h : w.heap[g]? = some o) : g < w.heap.size := (Array.getElem?_eq_some_iff.1 h).1
theorem row2F {w : World} {ok : Nat → Prop} {g t : Nat} {fr : Nat × Nat} (x0 x1 : S67) {A0 A1 : Option Addr} {c0 c1 : Nat} (hg : ok g) (h : w.heap[g]? = some (.cells #[.int .i64 x0.f0, .bool x0.f1, .int .i64 x0.f2, .string x0.f3, .string x0.f4.f0, .string x0.f4.f1, .slice A0 x0.f5.length c0, .int .i64 x1.f0, .bool x1.f1, .int .i64 x1.f2, .string x1.f3, .string x1.f4.f0, .string x1.f4.f1, .slice A1 x1.f5.length c1] t fr)) (l0 : x0.f5.length ≤ c0) (g0 : Kd.F k67 w ok A0 x0.f5.length x0.f5) (l1 : x1.f5.length ≤ c1) (g1 : Kd.F k67 w ok A1 x1.f5.length x1.f5) : Kd.F k67 w ok (some ⟨g, 0, none⟩) 2 [x0, x1] :=
  fun W' hW => expr_row2 x0 x1 ((hW g hg (lt_heap h)).trans h) l0 (g0 W' hW) l1 (g1 W' hW)
theorem row3F {w : World} {ok : Nat → Prop} {g t : Nat} {fr : Nat × Nat} (x0 x1 x2 : S67) {A0 A1 A2 : Option Addr} {c0 c1 c2 : Nat} (hg : ok g) (h : w.heap[g]? = some (.cells #[.int .i64 x0.f0, .bool x0.f1, .int .i64 x0.f2, .string x0.f3, .string x0.f4.f0, .string x0.f4.f1, .slice A0 x0.f5.length c0, .int .i64 x1.f0, .bool x1.f1, .int .i64 x1.f2, .string x1.f3, .string x1.f4.f0, .string x1.f4.f1, .slice A1 x1.f5.length c1, .int .i64 x2.f0, .bool x2.f1, .int .i64 x2.f2, .string x2.f3, .string x2.f4.f0, .string x2.f4.f1, .slice A2 x2.f5.length c2] t fr)) (l0 : x0.f5.length ≤ c0) (g0 : Kd.F k67 w ok A0 x0.f5.length x0.f5) (l1 : x1.f5.length ≤ c1) (g1 : Kd.F k67 w ok A1 x1.f5.length x1.f5) (l2 : x2.f5.length ≤ c2) (g2 : Kd.F k67 w ok A2 x2.f5.length x2.f5) : Kd.F k67 w ok (some ⟨g, 0, none⟩) 3 [x0, x1, x2] :=
  fun W' hW => expr_row3 x0 x1 x2 ((hW g hg (lt_heap h)).trans h) l0 (g0 W' hW) l1 (g1 W' hW) l2 (g2 W' hW)
/-- A whole number's leaf, as a tree. -/
abbrev leafN (n : Int) : S67 := ⟨2, false, n, ⟨#[]⟩, ⟨⟨#[]⟩, ⟨#[]⟩⟩, []⟩
/-- A box that holds a tree whose kids lie elsewhere. -/
structure TreeC (w : World) (g : Nat) (e : S67) (A : Option Addr) (c : Nat) : Prop where
  cells : w.heap[g]? = some (.cells #[.int .i64 e.f0, .bool e.f1, .int .i64 e.f2, .string e.f3, .string e.f4.f0, .string e.f4.f1, .slice A e.f5.length c] 67 (0, 0))
  le : e.f5.length ≤ c
  foot : Kd.F k67 w (fun q => q ≠ g) A e.f5.length e.f5
def TreeAt (w : World) (g : Nat) (e : S67) : Prop := ∃ A c, TreeC w g e A c
theorem TreeC.below {w w1 : World} {g : Nat} {e : S67} {A : Option Addr} {c : Nat} (h : TreeC w g e A c) (hb : Below w.heap.size w w1) : TreeC w1 g e A c :=
  ⟨(hb.block g (lt_heap h.cells)).trans h.cells, h.le, Kd.F_below h.foot hb⟩
theorem TreeAt.below {w w1 : World} {g : Nat} {e : S67} (h : TreeAt w g e) (hb : Below w.heap.size w w1) : TreeAt w1 g e := by
  obtain ⟨A, c, h⟩ := h
  exact ⟨A, c, h.below hb⟩
/-- Seven cells put into a box. -/
abbrev set7 (w : World) (g : Nat) (v0 v1 v2 v3 v4 v5 v6 : Value) : World := ((((((w.setCell ⟨g, 0, none⟩ v0).setCell ⟨g, 1, none⟩ v1).setCell ⟨g, 2, none⟩ v2).setCell ⟨g, 3, none⟩ v3).setCell ⟨g, 4, none⟩ v4).setCell ⟨g, 5, none⟩ v5).setCell ⟨g, 6, none⟩ v6
theorem set7_heap {w : World} {g t : Nat} {a0 a1 a2 a3 a4 a5 a6 : Value} (h : w.heap[g]? = some (.cells #[a0, a1, a2, a3, a4, a5, a6] t (0, 0))) (v0 v1 v2 v3 v4 v5 v6 : Value) : (set7 w g v0 v1 v2 v3 v4 v5 v6).heap[g]? = some (.cells #[v0, v1, v2, v3, v4, v5, v6] t (0, 0)) := by
  have h0 := setCell_heap w g 0 v0 [a0, a1, a2, a3, a4, a5, a6] t (0, 0) h
  have h1 := setCell_heap _ g 1 v1 _ t (0, 0) h0
  have h2 := setCell_heap _ g 2 v2 _ t (0, 0) h1
  have h3 := setCell_heap _ g 3 v3 _ t (0, 0) h2
  have h4 := setCell_heap _ g 4 v4 _ t (0, 0) h3
  have h5 := setCell_heap _ g 5 v5 _ t (0, 0) h4
  exact setCell_heap _ g 6 v6 _ t (0, 0) h5
theorem set7_F {w : World} {g : Nat} {A : Option Addr} {n : Nat} {xs : List S67} (h : Kd.F k67 w (fun q => q ≠ g) A n xs) (v0 v1 v2 v3 v4 v5 v6 : Value) : Kd.F k67 (set7 w g v0 v1 v2 v3 v4 v5 v6) (fun q => q ≠ g) A n xs :=
  Kd.F_far (p := ⟨g, 6, none⟩) (Kd.F_far (p := ⟨g, 5, none⟩) (Kd.F_far (p := ⟨g, 4, none⟩) (Kd.F_far (p := ⟨g, 3, none⟩) (Kd.F_far (p := ⟨g, 2, none⟩) (Kd.F_far (p := ⟨g, 1, none⟩) (Kd.F_far (p := ⟨g, 0, none⟩) h (fun _ h => h) v0) (fun _ h => h) v1) (fun _ h => h) v2) (fun _ h => h) v3) (fun _ h => h) v4) (fun _ h => h) v5) (fun _ h => h) v6
theorem leafF (w : World) (ok : Nat → Prop) : Kd.F k67 w ok none 0 ([] : List S67) := Kd.F_nil _ _ _
/-- The set of one and the tree, put into the tree's box. -/
theorem TreeC.wrap1 {w : World} {g : Nat} {e : S67} {A : Option Addr} {c : Nat} (h : TreeC w g e A c) :
    TreeC (set7 (w.alloc (.cells #[.int .i64 2, .bool false, .int .i64 1, .string ⟨#[]⟩, .string ⟨#[]⟩, .string ⟨#[]⟩, .slice none 0 0, .int .i64 e.f0, .bool e.f1, .int .i64 e.f2, .string e.f3, .string e.f4.f0, .string e.f4.f1, .slice A e.f5.length c] 67 (0, 0))) g (.int .i64 6) (.bool false) (.int .i64 0) (.string ⟨#[]⟩) (.string ⟨#[]⟩) (.string ⟨#[]⟩) (.slice (some ⟨w.heap.size, 0, none⟩) 2 2)) g ⟨6, false, 0, ⟨#[]⟩, ⟨⟨#[]⟩, ⟨#[]⟩⟩, [leafN 1, e]⟩ (some ⟨w.heap.size, 0, none⟩) 2 := by
  have hlt := lt_heap h.cells
  refine ⟨set7_heap (blk_alloc h.cells _) _ _ _ _ _ _ _, Nat.le_refl _, set7_F ?_ _ _ _ _ _ _ _⟩
  exact row2F (ok := fun q => q ≠ g) (leafN 1) e (A0 := none) (c0 := 0) (fun e => by omega) (blk_new _ _) (Nat.le_refl _) (leafF _ _) h.le (Kd.F_alloc h.foot _)
/-- The rest of the wrap, put into the tree's box. -/
theorem TreeC.wrap2 {w : World} {g : Nat} {e : S67} {A : Option Addr} {c : Nat} (h : TreeC w g ⟨6, false, 0, ⟨#[]⟩, ⟨⟨#[]⟩, ⟨#[]⟩⟩, [leafN 1, e]⟩ A c) :
    TreeAt (set7 ((w.alloc (.cells #[.int .i64 6, .bool false, .int .i64 0, .string ⟨#[]⟩, .string ⟨#[]⟩, .string ⟨#[]⟩, .slice A 2 c, .int .i64 2, .bool false, .int .i64 1, .string ⟨#[]⟩, .string ⟨#[]⟩, .string ⟨#[]⟩, .slice none 0 0] 67 (0, 0))).alloc (.cells #[.int .i64 9, .bool false, .int .i64 0, .string ⟨#[]⟩, .string ⟨#[]⟩, .string ⟨#[]⟩, .slice (some ⟨w.heap.size, 0, none⟩) 2 2, .int .i64 2, .bool false, .int .i64 3, .string ⟨#[]⟩, .string ⟨#[]⟩, .string ⟨#[]⟩, .slice none 0 0, .int .i64 2, .bool false, .int .i64 4, .string ⟨#[]⟩, .string ⟨#[]⟩, .string ⟨#[]⟩, .slice none 0 0] 67 (0, 0))) g (.int .i64 25) (.bool false) (.int .i64 0) (.string ⟨#[]⟩) (.string ⟨#[]⟩) (.string ⟨#[]⟩) (.slice (some ⟨w.heap.size + 1, 0, none⟩) 3 3)) g (wrapT e) := by
  have hlt := lt_heap h.cells
  refine ⟨some ⟨w.heap.size + 1, 0, none⟩, 3, set7_heap (blk_alloc (blk_alloc h.cells _) _) _ _ _ _ _ _ _, Nat.le_refl _, set7_F ?_ _ _ _ _ _ _ _⟩
  have h1 : Kd.F k67 (w.alloc (.cells #[.int .i64 6, .bool false, .int .i64 0, .string ⟨#[]⟩, .string ⟨#[]⟩, .string ⟨#[]⟩, .slice A 2 c, .int .i64 2, .bool false, .int .i64 1, .string ⟨#[]⟩, .string ⟨#[]⟩, .string ⟨#[]⟩, .slice none 0 0] 67 (0, 0))) (fun q => q ≠ g) (some ⟨w.heap.size, 0, none⟩) 2 [⟨6, false, 0, ⟨#[]⟩, ⟨⟨#[]⟩, ⟨#[]⟩⟩, [leafN 1, e]⟩, leafN 1] :=
    row2F (ok := fun q => q ≠ g) ⟨6, false, 0, ⟨#[]⟩, ⟨⟨#[]⟩, ⟨#[]⟩⟩, [leafN 1, e]⟩ (leafN 1) (A1 := none) (c1 := 0) (fun e => by omega) (blk_new _ _) h.le (Kd.F_alloc h.foot _) (Nat.le_refl _) (leafF _ _)
  exact row3F (ok := fun q => q ≠ g) ⟨9, false, 0, ⟨#[]⟩, ⟨⟨#[]⟩, ⟨#[]⟩⟩, [⟨6, false, 0, ⟨#[]⟩, ⟨⟨#[]⟩, ⟨#[]⟩⟩, [leafN 1, e]⟩, leafN 1]⟩ (leafN 3) (leafN 4) (A1 := none) (c1 := 0) (A2 := none) (c2 := 0) (fun e => by omega) (by have := blk_new (w.alloc (.cells #[.int .i64 6, .bool false, .int .i64 0, .string ⟨#[]⟩, .string ⟨#[]⟩, .string ⟨#[]⟩, .slice A 2 c, .int .i64 2, .bool false, .int .i64 1, .string ⟨#[]⟩, .string ⟨#[]⟩, .string ⟨#[]⟩, .slice none 0 0] 67 (0, 0))) (.cells #[.int .i64 9, .bool false, .int .i64 0, .string ⟨#[]⟩, .string ⟨#[]⟩, .string ⟨#[]⟩, .slice (some ⟨w.heap.size, 0, none⟩) 2 2, .int .i64 2, .bool false, .int .i64 3, .string ⟨#[]⟩, .string ⟨#[]⟩, .string ⟨#[]⟩, .slice none 0 0, .int .i64 2, .bool false, .int .i64 4, .string ⟨#[]⟩, .string ⟨#[]⟩, .string ⟨#[]⟩, .slice none 0 0] 67 (0, 0)); rw [show (w.alloc (.cells #[.int .i64 6, .bool false, .int .i64 0, .string ⟨#[]⟩, .string ⟨#[]⟩, .string ⟨#[]⟩, .slice A 2 c, .int .i64 2, .bool false, .int .i64 1, .string ⟨#[]⟩, .string ⟨#[]⟩, .string ⟨#[]⟩, .slice none 0 0] 67 (0, 0))).heap.size = w.heap.size + 1 by simp] at this; exact this) (Nat.le_refl _) (Kd.F_alloc h1 _) (Nat.le_refl _) (leafF _ _) (Nat.le_refl _) (leafF _ _)
/-- The tree that is made first. -/
theorem TreeC.start {w : World} {g h : Nat} (op a b : Int) (hg : w.heap[g]? = some (.cells #[.int .i64 op, .bool false, .int .i64 0, .string ⟨#[]⟩, .string ⟨#[]⟩, .string ⟨#[]⟩, .slice (some ⟨h, 0, none⟩) 2 2] 67 (0, 0))) (hh : w.heap[h]? = some (.cells #[.int .i64 2, .bool false, .int .i64 a, .string ⟨#[]⟩, .string ⟨#[]⟩, .string ⟨#[]⟩, .slice none 0 0, .int .i64 2, .bool false, .int .i64 b, .string ⟨#[]⟩, .string ⟨#[]⟩, .string ⟨#[]⟩, .slice none 0 0] 67 (0, 0))) (hne : h ≠ g) : TreeAt w g ⟨op, false, 0, ⟨#[]⟩, ⟨⟨#[]⟩, ⟨#[]⟩⟩, [leafN a, leafN b]⟩ :=
  ⟨some ⟨h, 0, none⟩, 2, hg, Nat.le_refl _, row2F (ok := fun q => q ≠ g) (leafN a) (leafN b) (A0 := none) (c0 := 0) (A1 := none) (c1 := 0) hne hh (Nat.le_refl _) (leafF _ _) (Nat.le_refl _) (leafF _ _)⟩
/-- What the tree of the box comes to. -/
theorem TreeC.expr {w : World} {g : Nat} {e : S67} {A : Option Addr} {c : Nat} (h : TreeC w g e A c) (r : S31) (er : Int) (k : Nat) (he : evE 1000 ⟨#[]⟩ ⟨#[]⟩ ⟨#[]⟩ ⟨#[]⟩ ⟨#[]⟩ ⟨#[]⟩ k e = some (r, er)) :
    Calls Try.prog 41 #[.slice none 0 0, .agg #[.string ⟨#[]⟩, .string ⟨#[]⟩, .string ⟨#[]⟩, .string ⟨#[]⟩, .string ⟨#[]⟩, .string ⟨#[]⟩], .agg #[.int .i64 e.f0, .bool e.f1, .int .i64 e.f2, .string e.f3, .string e.f4.f0, .string e.f4.f1, .slice A e.f5.length c]] w fun x w' => ∃ A6 c6, x = .returned (.tuple #[.agg #[.int .i64 r.f0, .bool r.f1, .int .i64 r.f2, .string r.f3, .string r.f4.f0, .string r.f4.f1, .slice A6 r.f5.length c6], .int .i64 er]) ∧ r.f5.length ≤ c6 ∧ k31.C w' A6 r.f5.length r.f5 ∧ Below w.heap.size w w' :=
  (Expr_ok ⟨#[]⟩ ⟨#[]⟩ ⟨#[]⟩ ⟨#[]⟩ ⟨#[]⟩ ⟨#[]⟩ e r er (evE_ok 1000 ⟨#[]⟩ ⟨#[]⟩ ⟨#[]⟩ ⟨#[]⟩ ⟨#[]⟩ ⟨#[]⟩ k _ _ _ he) none 0 A c w h.le (Kd.F_now h.foot)).mono (fun x w' hx => by obtain ⟨v6, h1, hV, hb⟩ := hx; obtain ⟨A6, c6, rfl⟩ := Kd.V_slice hV; exact ⟨A6, c6, h1, (Kd.V_reads' hV).2.1, (Kd.V_reads' hV).2.2, hb⟩)
theorem TreeC.start' {w : World} {g h : Nat} (op a b : Int) (hg : w.heap[g]? = some (.cells #[.int .i64 op, .bool false, .int .i64 0, .string ⟨#[]⟩, .string ⟨#[]⟩, .string ⟨#[]⟩, .slice (some ⟨h, 0, none⟩) 2 2] 67 (0, 0))) (hh : w.heap[h]? = some (.cells #[.int .i64 2, .bool false, .int .i64 a, .string ⟨#[]⟩, .string ⟨#[]⟩, .string ⟨#[]⟩, .slice none 0 0, .int .i64 2, .bool false, .int .i64 b, .string ⟨#[]⟩, .string ⟨#[]⟩, .string ⟨#[]⟩, .slice none 0 0] 67 (0, 0))) (hne : h ≠ g) : TreeC w g ⟨op, false, 0, ⟨#[]⟩, ⟨⟨#[]⟩, ⟨#[]⟩⟩, [leafN a, leafN b]⟩ (some ⟨h, 0, none⟩) 2 :=
  ⟨hg, Nat.le_refl _, row2F (ok := fun q => q ≠ g) (leafN a) (leafN b) (A0 := none) (c0 := 0) (A1 := none) (c1 := 0) hne hh (Nat.le_refl _) (leafF _ _) (Nat.le_refl _) (leafF _ _)⟩
end Go.Proofs.Ytfmghijmcgkpiaa.GE
