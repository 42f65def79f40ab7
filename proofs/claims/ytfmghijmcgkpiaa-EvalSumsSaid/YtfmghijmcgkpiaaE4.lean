import Derived.Test.YtfmghijmcgkpiaaGS0
import Derived.Test.YtfmghijmcgkpiaaE3
namespace Go.Proofs.Ytfmghijmcgkpiaa.GE
open Go.RowKit Go.Proofs.YtfmghijmcgkpiaaW.PrintWords Go.Proofs.YtfmghijmcgkpiaaW.PrintLast Go.Proofs.Ytfmghijmcgkpiaa.HandV Go.Proofs.YtfmghijmcgkpiaaW.PrintMore
open Go.Proofs.Ytfmghijmcgkpiaa.GS
attribute [local go_sem] max2_int min2_int max_two min_two max_three min_three max_four min_four   -- for this text's walks alone
set_option linter.unusedVariables false
set_option linter.unusedSimpArgs false
-- IMPORT .E3
theorem Box.drew {w : World} {b : Nat} (h : Box w b) : Box w.drew b := h
theorem heap_after7 {w : World} {b g : Nat} (c0 c1 c2 c3 c4 c5 c6 : Value) (hne : g ≠ b) : (((((((w.setCell ⟨b, 0, none⟩ c0).setCell ⟨b, 1, none⟩ c1).setCell ⟨b, 2, none⟩ c2).setCell ⟨b, 3, none⟩ c3).setCell ⟨b, 4, none⟩ c4).setCell ⟨b, 5, none⟩ c5).setCell ⟨b, 6, none⟩ c6).heap[g]? = w.heap[g]? := by
  iterate 7 rw [Below.heap_setCell _ _ _ g hne]
theorem cell_after7 {w : World} {b g j : Nat} {v c0 c1 c2 c3 c4 c5 c6 : Value} (h : w.cell? ⟨g, j, none⟩ = some v) (hne : g ≠ b) : (((((((w.setCell ⟨b, 0, none⟩ c0).setCell ⟨b, 1, none⟩ c1).setCell ⟨b, 2, none⟩ c2).setCell ⟨b, 3, none⟩ c3).setCell ⟨b, 4, none⟩ c4).setCell ⟨b, 5, none⟩ c5).setCell ⟨b, 6, none⟩ c6).cell? ⟨g, j, none⟩ = some v :=
  (World.cell?_of_block (a := ⟨g, j, none⟩) (heap_after7 c0 c1 c2 c3 c4 c5 c6 hne)).trans h
theorem below_after7 {W w : World} {B b : Nat} {c0 c1 c2 c3 c4 c5 c6 : Value} (h : Below B W w) (hb : B ≤ b) : Below B W (((((((w.setCell ⟨b, 0, none⟩ c0).setCell ⟨b, 1, none⟩ c1).setCell ⟨b, 2, none⟩ c2).setCell ⟨b, 3, none⟩ c3).setCell ⟨b, 4, none⟩ c4).setCell ⟨b, 5, none⟩ c5).setCell ⟨b, 6, none⟩ c6) :=
  ((((((h.setCell (p := ⟨b, 0, none⟩) hb c0).setCell (p := ⟨b, 1, none⟩) hb c1).setCell (p := ⟨b, 2, none⟩) hb c2).setCell (p := ⟨b, 3, none⟩) hb c3).setCell (p := ⟨b, 4, none⟩) hb c4).setCell (p := ⟨b, 5, none⟩) hb c5).setCell (p := ⟨b, 6, none⟩) hb c6
set_option maxRecDepth 100000 in
set_option maxHeartbeats 16000000 in
theorem double_num (A : Option Addr) (l c : Nat) (p0 p1 p2 p3 p4 p5 : ByteArray) (op : Int) (h9 : op ≠ 9) (h20 : op ≠ 20) (h21 : op ≠ 21) (h22 : op ≠ 22) (a0 a1 a2 a3 a4 a5 a6 b0 b1 b2 b3 b4 b5 b6 r0 r1 r2 r3 r4 r5 r6 : Value) (x y : Value) (er : Int)
    (h1 : ∀ W, Calls Try.prog 161 #[.agg #[a0, a1, a2, a3, a4, a5, a6]] W fun e w' => e = .returned x ∧ Below W.heap.size W w') (h2 : ∀ W, Calls Try.prog 161 #[.agg #[b0, b1, b2, b3, b4, b5, b6]] W fun e w' => e = .returned y ∧ Below W.heap.size W w') (h3 : ∀ W, Calls Try.prog 167 #[.int .i64 op, x, y] W fun e w' => e = .returned (.tuple #[.agg #[r0, r1, r2, r3, r4, r5, r6], .int .i64 er]) ∧ Below W.heap.size W w') (hs : ∀ u ∈ [r0, r1, r2, r3, r4, r5, r6], u.oneCell' = true) (w : World) :
    Calls Try.prog 139 #[.agg #[.slice A l c, .string p0, .string p1, .string p2, .string p3, .string p4, .string p5], .int .i64 op, .agg #[a0, a1, a2, a3, a4, a5, a6], .agg #[b0, b1, b2, b3, b4, b5, b6]] w fun e w' => e = .returned (.tuple #[.agg #[r0, r1, r2, r3, r4, r5, r6], .int .i64 er]) ∧ Below w.heap.size w w' := by
  have h9_0 : (op == 9) = false := beq_eq_false_iff_ne.mpr h9
  have h20_0 : (op == 20) = false := beq_eq_false_iff_ne.mpr h20
  have h21_0 : (op == 21) = false := beq_eq_false_iff_ne.mpr h21
  have h22_0 : (op == 22) = false := beq_eq_false_iff_ne.mpr h22
  clear h9 h20 h21 h22
  have s0 := store_of (hs r0 (by simp))
  have s1 := store_of (hs r1 (by simp))
  have s2 := store_of (hs r2 (by simp))
  have s3 := store_of (hs r3 (by simp))
  have s4 := store_of (hs r4 (by simp))
  have s5 := store_of (hs r5 (by simp))
  have s6 := store_of (hs r6 (by simp))
  clear hs
  have H1 := Aside0.mk h1
  have H2 := Aside0.mk h2
  have H3 := Aside0.mk h3
  clear h1 h2 h3
  go_enter Try.func139, Try.ntmps139
  go_wp2_with fail
  have x0 : ((((w.alloc (Obj.cells #[.slice A l c, .string p0, .string p1, .string p2, .string p3, .string p4, .string p5] 151)).alloc (Obj.cells #[a0, a1, a2, a3, a4, a5, a6] 31)).alloc (Obj.cells #[b0, b1, b2, b3, b4, b5, b6] 31)).alloc (Obj.cells #[.int .i64 0, .bool false, .int .i64 0, .string ⟨#[]⟩, .string ⟨#[]⟩, .string ⟨#[]⟩, .slice none 0 0] 31)).cell? ⟨w.heap.size + 1, 0, none⟩ = some a0 := by go_simp
  have x1 : ((((w.alloc (Obj.cells #[.slice A l c, .string p0, .string p1, .string p2, .string p3, .string p4, .string p5] 151)).alloc (Obj.cells #[a0, a1, a2, a3, a4, a5, a6] 31)).alloc (Obj.cells #[b0, b1, b2, b3, b4, b5, b6] 31)).alloc (Obj.cells #[.int .i64 0, .bool false, .int .i64 0, .string ⟨#[]⟩, .string ⟨#[]⟩, .string ⟨#[]⟩, .slice none 0 0] 31)).cell? ⟨w.heap.size + 1, 1, none⟩ = some a1 := by go_simp
  have x2 : ((((w.alloc (Obj.cells #[.slice A l c, .string p0, .string p1, .string p2, .string p3, .string p4, .string p5] 151)).alloc (Obj.cells #[a0, a1, a2, a3, a4, a5, a6] 31)).alloc (Obj.cells #[b0, b1, b2, b3, b4, b5, b6] 31)).alloc (Obj.cells #[.int .i64 0, .bool false, .int .i64 0, .string ⟨#[]⟩, .string ⟨#[]⟩, .string ⟨#[]⟩, .slice none 0 0] 31)).cell? ⟨w.heap.size + 1, 2, none⟩ = some a2 := by go_simp
  have x3 : ((((w.alloc (Obj.cells #[.slice A l c, .string p0, .string p1, .string p2, .string p3, .string p4, .string p5] 151)).alloc (Obj.cells #[a0, a1, a2, a3, a4, a5, a6] 31)).alloc (Obj.cells #[b0, b1, b2, b3, b4, b5, b6] 31)).alloc (Obj.cells #[.int .i64 0, .bool false, .int .i64 0, .string ⟨#[]⟩, .string ⟨#[]⟩, .string ⟨#[]⟩, .slice none 0 0] 31)).cell? ⟨w.heap.size + 1, 3, none⟩ = some a3 := by go_simp
  have x4 : ((((w.alloc (Obj.cells #[.slice A l c, .string p0, .string p1, .string p2, .string p3, .string p4, .string p5] 151)).alloc (Obj.cells #[a0, a1, a2, a3, a4, a5, a6] 31)).alloc (Obj.cells #[b0, b1, b2, b3, b4, b5, b6] 31)).alloc (Obj.cells #[.int .i64 0, .bool false, .int .i64 0, .string ⟨#[]⟩, .string ⟨#[]⟩, .string ⟨#[]⟩, .slice none 0 0] 31)).cell? ⟨w.heap.size + 1, 4, none⟩ = some a4 := by go_simp
  have x5 : ((((w.alloc (Obj.cells #[.slice A l c, .string p0, .string p1, .string p2, .string p3, .string p4, .string p5] 151)).alloc (Obj.cells #[a0, a1, a2, a3, a4, a5, a6] 31)).alloc (Obj.cells #[b0, b1, b2, b3, b4, b5, b6] 31)).alloc (Obj.cells #[.int .i64 0, .bool false, .int .i64 0, .string ⟨#[]⟩, .string ⟨#[]⟩, .string ⟨#[]⟩, .slice none 0 0] 31)).cell? ⟨w.heap.size + 1, 5, none⟩ = some a5 := by go_simp
  have x6 : ((((w.alloc (Obj.cells #[.slice A l c, .string p0, .string p1, .string p2, .string p3, .string p4, .string p5] 151)).alloc (Obj.cells #[a0, a1, a2, a3, a4, a5, a6] 31)).alloc (Obj.cells #[b0, b1, b2, b3, b4, b5, b6] 31)).alloc (Obj.cells #[.int .i64 0, .bool false, .int .i64 0, .string ⟨#[]⟩, .string ⟨#[]⟩, .string ⟨#[]⟩, .slice none 0 0] 31)).cell? ⟨w.heap.size + 1, 6, none⟩ = some a6 := by go_simp
  have x7 : ((((w.alloc (Obj.cells #[.slice A l c, .string p0, .string p1, .string p2, .string p3, .string p4, .string p5] 151)).alloc (Obj.cells #[a0, a1, a2, a3, a4, a5, a6] 31)).alloc (Obj.cells #[b0, b1, b2, b3, b4, b5, b6] 31)).alloc (Obj.cells #[.int .i64 0, .bool false, .int .i64 0, .string ⟨#[]⟩, .string ⟨#[]⟩, .string ⟨#[]⟩, .slice none 0 0] 31)).cell? ⟨w.heap.size + 1 + 1, 0, none⟩ = some b0 := by go_simp
  have x8 : ((((w.alloc (Obj.cells #[.slice A l c, .string p0, .string p1, .string p2, .string p3, .string p4, .string p5] 151)).alloc (Obj.cells #[a0, a1, a2, a3, a4, a5, a6] 31)).alloc (Obj.cells #[b0, b1, b2, b3, b4, b5, b6] 31)).alloc (Obj.cells #[.int .i64 0, .bool false, .int .i64 0, .string ⟨#[]⟩, .string ⟨#[]⟩, .string ⟨#[]⟩, .slice none 0 0] 31)).cell? ⟨w.heap.size + 1 + 1, 1, none⟩ = some b1 := by go_simp
  have x9 : ((((w.alloc (Obj.cells #[.slice A l c, .string p0, .string p1, .string p2, .string p3, .string p4, .string p5] 151)).alloc (Obj.cells #[a0, a1, a2, a3, a4, a5, a6] 31)).alloc (Obj.cells #[b0, b1, b2, b3, b4, b5, b6] 31)).alloc (Obj.cells #[.int .i64 0, .bool false, .int .i64 0, .string ⟨#[]⟩, .string ⟨#[]⟩, .string ⟨#[]⟩, .slice none 0 0] 31)).cell? ⟨w.heap.size + 1 + 1, 2, none⟩ = some b2 := by go_simp
  have x10 : ((((w.alloc (Obj.cells #[.slice A l c, .string p0, .string p1, .string p2, .string p3, .string p4, .string p5] 151)).alloc (Obj.cells #[a0, a1, a2, a3, a4, a5, a6] 31)).alloc (Obj.cells #[b0, b1, b2, b3, b4, b5, b6] 31)).alloc (Obj.cells #[.int .i64 0, .bool false, .int .i64 0, .string ⟨#[]⟩, .string ⟨#[]⟩, .string ⟨#[]⟩, .slice none 0 0] 31)).cell? ⟨w.heap.size + 1 + 1, 3, none⟩ = some b3 := by go_simp
  have x11 : ((((w.alloc (Obj.cells #[.slice A l c, .string p0, .string p1, .string p2, .string p3, .string p4, .string p5] 151)).alloc (Obj.cells #[a0, a1, a2, a3, a4, a5, a6] 31)).alloc (Obj.cells #[b0, b1, b2, b3, b4, b5, b6] 31)).alloc (Obj.cells #[.int .i64 0, .bool false, .int .i64 0, .string ⟨#[]⟩, .string ⟨#[]⟩, .string ⟨#[]⟩, .slice none 0 0] 31)).cell? ⟨w.heap.size + 1 + 1, 4, none⟩ = some b4 := by go_simp
  have x12 : ((((w.alloc (Obj.cells #[.slice A l c, .string p0, .string p1, .string p2, .string p3, .string p4, .string p5] 151)).alloc (Obj.cells #[a0, a1, a2, a3, a4, a5, a6] 31)).alloc (Obj.cells #[b0, b1, b2, b3, b4, b5, b6] 31)).alloc (Obj.cells #[.int .i64 0, .bool false, .int .i64 0, .string ⟨#[]⟩, .string ⟨#[]⟩, .string ⟨#[]⟩, .slice none 0 0] 31)).cell? ⟨w.heap.size + 1 + 1, 5, none⟩ = some b5 := by go_simp
  have x13 : ((((w.alloc (Obj.cells #[.slice A l c, .string p0, .string p1, .string p2, .string p3, .string p4, .string p5] 151)).alloc (Obj.cells #[a0, a1, a2, a3, a4, a5, a6] 31)).alloc (Obj.cells #[b0, b1, b2, b3, b4, b5, b6] 31)).alloc (Obj.cells #[.int .i64 0, .bool false, .int .i64 0, .string ⟨#[]⟩, .string ⟨#[]⟩, .string ⟨#[]⟩, .slice none 0 0] 31)).cell? ⟨w.heap.size + 1 + 1, 6, none⟩ = some b6 := by go_simp
  have xb : Box ((((w.alloc (Obj.cells #[.slice A l c, .string p0, .string p1, .string p2, .string p3, .string p4, .string p5] 151)).alloc (Obj.cells #[a0, a1, a2, a3, a4, a5, a6] 31)).alloc (Obj.cells #[b0, b1, b2, b3, b4, b5, b6] 31)).alloc (Obj.cells #[.int .i64 0, .bool false, .int .i64 0, .string ⟨#[]⟩, .string ⟨#[]⟩, .string ⟨#[]⟩, .slice none 0 0] 31)) (w.heap.size + 1 + 1 + 1) := (by repeat (first | exact blk_at _ _ _ (by simp; done) | (refine (Below.heap_alloc _ _ _ (by first | (simp; done) | (simp; omega))).trans ?_)))
  have xl : Below w.heap.size w ((((w.alloc (Obj.cells #[.slice A l c, .string p0, .string p1, .string p2, .string p3, .string p4, .string p5] 151)).alloc (Obj.cells #[a0, a1, a2, a3, a4, a5, a6] 31)).alloc (Obj.cells #[b0, b1, b2, b3, b4, b5, b6] 31)).alloc (Obj.cells #[.int .i64 0, .bool false, .int .i64 0, .string ⟨#[]⟩, .string ⟨#[]⟩, .string ⟨#[]⟩, .slice none 0 0] 31)) := by repeat (first | exact Below.refl _ _ | apply below_alloc)
  generalize ((((w.alloc (Obj.cells #[.slice A l c, .string p0, .string p1, .string p2, .string p3, .string p4, .string p5] 151)).alloc (Obj.cells #[a0, a1, a2, a3, a4, a5, a6] 31)).alloc (Obj.cells #[b0, b1, b2, b3, b4, b5, b6] 31)).alloc (Obj.cells #[.int .i64 0, .bool false, .int .i64 0, .string ⟨#[]⟩, .string ⟨#[]⟩, .string ⟨#[]⟩, .slice none 0 0] 31)) = V at x0 x1 x2 x3 x4 x5 x6 x7 x8 x9 x10 x11 x12 x13 xb xl ⊢
  have y0 : V.drew.cell? ⟨w.heap.size + 1, 0, none⟩ = some a0 := x0
  have y1 : V.drew.cell? ⟨w.heap.size + 1, 1, none⟩ = some a1 := x1
  have y2 : V.drew.cell? ⟨w.heap.size + 1, 2, none⟩ = some a2 := x2
  have y3 : V.drew.cell? ⟨w.heap.size + 1, 3, none⟩ = some a3 := x3
  have y4 : V.drew.cell? ⟨w.heap.size + 1, 4, none⟩ = some a4 := x4
  have y5 : V.drew.cell? ⟨w.heap.size + 1, 5, none⟩ = some a5 := x5
  have y6 : V.drew.cell? ⟨w.heap.size + 1, 6, none⟩ = some a6 := x6
  have y7 : V.drew.cell? ⟨w.heap.size + 1 + 1, 0, none⟩ = some b0 := x7
  have y8 : V.drew.cell? ⟨w.heap.size + 1 + 1, 1, none⟩ = some b1 := x8
  have y9 : V.drew.cell? ⟨w.heap.size + 1 + 1, 2, none⟩ = some b2 := x9
  have y10 : V.drew.cell? ⟨w.heap.size + 1 + 1, 3, none⟩ = some b3 := x10
  have y11 : V.drew.cell? ⟨w.heap.size + 1 + 1, 4, none⟩ = some b4 := x11
  have y12 : V.drew.cell? ⟨w.heap.size + 1 + 1, 5, none⟩ = some b5 := x12
  have y13 : V.drew.cell? ⟨w.heap.size + 1 + 1, 6, none⟩ = some b6 := x13
  have yl : Below w.heap.size w V.drew := below_drew1 xl
  clear x0 x1 x2 x3 x4 x5 x6 x7 x8 x9 x10 x11 x12 x13
  go_region_held3 (fun W => W.cell? ⟨w.heap.size + 1, 0, none⟩ = some a0 ∧ W.cell? ⟨w.heap.size + 1, 1, none⟩ = some a1 ∧ W.cell? ⟨w.heap.size + 1, 2, none⟩ = some a2 ∧ W.cell? ⟨w.heap.size + 1, 3, none⟩ = some a3 ∧ W.cell? ⟨w.heap.size + 1, 4, none⟩ = some a4 ∧ W.cell? ⟨w.heap.size + 1, 5, none⟩ = some a5 ∧ W.cell? ⟨w.heap.size + 1, 6, none⟩ = some a6 ∧ W.cell? ⟨w.heap.size + 1 + 1, 0, none⟩ = some b0 ∧ W.cell? ⟨w.heap.size + 1 + 1, 1, none⟩ = some b1 ∧ W.cell? ⟨w.heap.size + 1 + 1, 2, none⟩ = some b2 ∧ W.cell? ⟨w.heap.size + 1 + 1, 3, none⟩ = some b3 ∧ W.cell? ⟨w.heap.size + 1 + 1, 4, none⟩ = some b4 ∧ W.cell? ⟨w.heap.size + 1 + 1, 5, none⟩ = some b5 ∧ W.cell? ⟨w.heap.size + 1 + 1, 6, none⟩ = some b6 ∧ Below w.heap.size w W)
    ((first | ((try go_split_ands); refine ⟨?_, ?_, ?_, ?_, ?_, ?_, ?_, ?_, ?_, ?_, ?_, ?_, ?_, ?_, ?_⟩ <;> first | (with_reducible assumption) | (with_reducible exact (hb.cell (World.block_lt_of_cell? _ _ (by assumption))).trans (by assumption)) | (with_reducible exact cell_after7 (by assumption) (by omega)) | (with_reducible exact below_after7 (by assumption) (by omega)))))
    ((first | (go_at_call 167; refine (H3.out _).mono ?_; rintro e w' ⟨rfl, hb⟩; have HBC := Aside0.mk (HBB.out.mono hb); have HLC : Below w.heap.size w w' := below_step HLB hb; have q0 := HBC.out.c0; have q1 := HBC.out.c1; have q2 := HBC.out.c2; have q3 := HBC.out.c3; have q4 := HBC.out.c4; have q5 := HBC.out.c5; have q6 := HBC.out.c6; have q7 := HBC.out.fr) | (go_at_call_of 161 b0; refine (H2.out _).mono ?_; rintro e w' ⟨rfl, hb⟩; have HBB := Aside0.mk (HBA.out.mono hb); have HLB : Below w.heap.size w w' := below_step HLA hb) | (go_at_call_of 161 a0; refine (H1.out _).mono ?_; rintro e w' ⟨rfl, hb⟩; have HBA := Aside0.mk ((Box.drew xb).mono hb); have HLA : Below w.heap.size w w' := below_step (below_drew1 xl) hb)))
  go_wp2
  (try simp only [Exit.inBlock, Exit.then])
  have hd := HBC.out.done r0 r1 r2 r3 r4 r5 r6
  have hbl := HLC.trans (below_cells (B := w.heap.size) (w.heap.size + 1 + 1 + 1) (by omega) [r0, r1, r2, r3, r4, r5, r6] 0 _)
  simp only [World.setCells] at hd hbl
  refine bodyPost_ret (results_row_tmp rfl _ _ (w.heap.size + 1 + 1 + 1) 31 _ (0, 0) _ rfl hd Try.underlying31 rfl (by kernel_rfl)) rfl ?_
  exact ⟨rfl, hbl⟩
set_option maxRecDepth 100000 in
set_option maxHeartbeats 16000000 in
theorem double_holds (A : Option Addr) (l c : Nat) (p0 p1 p2 p3 p4 p5 : ByteArray) (w : World) (a1 a2 a3 a4 a5 a6 b0 b1 b2 b3 b4 b5 b6 : Value) (tr : Bool) (h1 : ∀ W, Below w.heap.size w W → Calls Try.prog 22 #[.agg #[.int .i64 5, a1, a2, a3, a4, a5, a6], .agg #[b0, b1, b2, b3, b4, b5, b6]] W fun e w' => e = .returned (.bool tr) ∧ Below W.heap.size W w') :
    Calls Try.prog 139 #[.agg #[.slice A l c, .string p0, .string p1, .string p2, .string p3, .string p4, .string p5], .int .i64 9, .agg #[.int .i64 5, a1, a2, a3, a4, a5, a6], .agg #[b0, b1, b2, b3, b4, b5, b6]] w fun e w' => e = .returned (.tuple #[.agg #[.int .i64 1, .bool (tr), .int .i64 0, .string ⟨#[]⟩, .string ⟨#[]⟩, .string ⟨#[]⟩, .slice none 0 0], .int .i64 0]) ∧ Below w.heap.size w w' := by
  have H1 := Aside0.mk h1
  have hk := back_tr (tr)
  clear h1
  go_enter Try.func139, Try.ntmps139
  go_wp2_with (first | (go_at_call 22; refine (H1.out _ (by repeat (first | exact Below.refl _ _ | apply below_alloc))).mono ?_; rintro e w1 ⟨rfl, hb⟩; have HB1 : Aside0 (Below w.heap.size w w1) := ⟨below_step (by repeat (first | exact Below.refl _ _ | apply below_alloc)) hb⟩; have HBX1 : Aside0 (Box w1 (w.heap.size + 3)) := ⟨(hb.block _ (by first | (simp; done) | (simp; omega))).trans (by repeat (first | exact blk_at _ _ _ (by simp; done) | (refine (Below.heap_alloc _ _ _ (by first | (simp; done) | (simp; omega))).trans ?_)))⟩; have q0 := HBX1.out.c0; have q1 := HBX1.out.c1; have q2 := HBX1.out.c2; have q3 := HBX1.out.c3; have q4 := HBX1.out.c4; have q5 := HBX1.out.c5; have q6 := HBX1.out.c6; have q7 := HBX1.out.fr; clear hb) | (go_at_call 159; refine (hk _).mono ?_; rintro e w2 ⟨rfl, hb⟩; have HB2 : Aside0 (Below w.heap.size w w2) := ⟨below_step HB1.out hb⟩; have HBX2 := Aside0.mk (Box.mono HBX1.out hb); have q0 := HBX2.out.c0; have q1 := HBX2.out.c1; have q2 := HBX2.out.c2; have q3 := HBX2.out.c3; have q4 := HBX2.out.c4; have q5 := HBX2.out.c5; have q6 := HBX2.out.c6; have q7 := HBX2.out.fr; clear hb))
  (try simp only [Exit.inBlock, Exit.then])
  have hd := HBX2.out.done (.int .i64 1) (.bool (tr)) (.int .i64 0) (.string ⟨#[]⟩) (.string ⟨#[]⟩) (.string ⟨#[]⟩) (.slice none 0 0)
  have hbl := HB2.out.trans (below_cells (B := w.heap.size) (w.heap.size + 3) (by omega) [.int .i64 1, .bool (tr), .int .i64 0, .string ⟨#[]⟩, .string ⟨#[]⟩, .string ⟨#[]⟩, .slice none 0 0] 0 w2)
  simp only [World.setCells] at hd hbl
  refine bodyPost_ret (results_row_tmp rfl _ _ (w.heap.size + 3) 31 _ (0, 0) _ rfl hd Try.underlying31 rfl (by kernel_rfl)) rfl ?_
  exact ⟨rfl, hbl⟩
set_option maxRecDepth 100000 in
set_option maxHeartbeats 16000000 in
theorem double_same (A : Option Addr) (l c : Nat) (p0 p1 p2 p3 p4 p5 : ByteArray) (w : World) (a0 a1 a2 a3 a4 a5 a6 b0 b1 b2 b3 b4 b5 b6 : Value) (tr : Bool) (h1 : ∀ W, Below w.heap.size w W → Calls Try.prog 18 #[.agg #[a0, a1, a2, a3, a4, a5, a6], .agg #[b0, b1, b2, b3, b4, b5, b6]] W fun e w' => e = .returned (.bool tr) ∧ Below W.heap.size W w') :
    Calls Try.prog 139 #[.agg #[.slice A l c, .string p0, .string p1, .string p2, .string p3, .string p4, .string p5], .int .i64 20, .agg #[a0, a1, a2, a3, a4, a5, a6], .agg #[b0, b1, b2, b3, b4, b5, b6]] w fun e w' => e = .returned (.tuple #[.agg #[.int .i64 1, .bool (tr), .int .i64 0, .string ⟨#[]⟩, .string ⟨#[]⟩, .string ⟨#[]⟩, .slice none 0 0], .int .i64 0]) ∧ Below w.heap.size w w' := by
  have H1 := Aside0.mk h1
  have hk := back_tr (tr)
  clear h1
  go_enter Try.func139, Try.ntmps139
  go_wp2_with (first | (go_at_call 18; refine (H1.out _ (by repeat (first | exact Below.refl _ _ | apply below_alloc))).mono ?_; rintro e w1 ⟨rfl, hb⟩; have HB1 : Aside0 (Below w.heap.size w w1) := ⟨below_step (by repeat (first | exact Below.refl _ _ | apply below_alloc)) hb⟩; have HBX1 : Aside0 (Box w1 (w.heap.size + 3)) := ⟨(hb.block _ (by first | (simp; done) | (simp; omega))).trans (by repeat (first | exact blk_at _ _ _ (by simp; done) | (refine (Below.heap_alloc _ _ _ (by first | (simp; done) | (simp; omega))).trans ?_)))⟩; have q0 := HBX1.out.c0; have q1 := HBX1.out.c1; have q2 := HBX1.out.c2; have q3 := HBX1.out.c3; have q4 := HBX1.out.c4; have q5 := HBX1.out.c5; have q6 := HBX1.out.c6; have q7 := HBX1.out.fr; clear hb) | (go_at_call 159; refine (hk _).mono ?_; rintro e w2 ⟨rfl, hb⟩; have HB2 : Aside0 (Below w.heap.size w w2) := ⟨below_step HB1.out hb⟩; have HBX2 := Aside0.mk (Box.mono HBX1.out hb); have q0 := HBX2.out.c0; have q1 := HBX2.out.c1; have q2 := HBX2.out.c2; have q3 := HBX2.out.c3; have q4 := HBX2.out.c4; have q5 := HBX2.out.c5; have q6 := HBX2.out.c6; have q7 := HBX2.out.fr; clear hb))
  (try simp only [Exit.inBlock, Exit.then])
  have hd := HBX2.out.done (.int .i64 1) (.bool (tr)) (.int .i64 0) (.string ⟨#[]⟩) (.string ⟨#[]⟩) (.string ⟨#[]⟩) (.slice none 0 0)
  have hbl := HB2.out.trans (below_cells (B := w.heap.size) (w.heap.size + 3) (by omega) [.int .i64 1, .bool (tr), .int .i64 0, .string ⟨#[]⟩, .string ⟨#[]⟩, .string ⟨#[]⟩, .slice none 0 0] 0 w2)
  simp only [World.setCells] at hd hbl
  refine bodyPost_ret (results_row_tmp rfl _ _ (w.heap.size + 3) 31 _ (0, 0) _ rfl hd Try.underlying31 rfl (by kernel_rfl)) rfl ?_
  exact ⟨rfl, hbl⟩
set_option maxRecDepth 100000 in
set_option maxHeartbeats 16000000 in
theorem double_other (A : Option Addr) (l c : Nat) (p0 p1 p2 p3 p4 p5 : ByteArray) (w : World) (a0 a1 a2 a3 a4 a5 a6 b0 b1 b2 b3 b4 b5 b6 : Value) (tr : Bool) (h1 : ∀ W, Below w.heap.size w W → Calls Try.prog 18 #[.agg #[a0, a1, a2, a3, a4, a5, a6], .agg #[b0, b1, b2, b3, b4, b5, b6]] W fun e w' => e = .returned (.bool tr) ∧ Below W.heap.size W w') :
    Calls Try.prog 139 #[.agg #[.slice A l c, .string p0, .string p1, .string p2, .string p3, .string p4, .string p5], .int .i64 21, .agg #[a0, a1, a2, a3, a4, a5, a6], .agg #[b0, b1, b2, b3, b4, b5, b6]] w fun e w' => e = .returned (.tuple #[.agg #[.int .i64 1, .bool (!tr), .int .i64 0, .string ⟨#[]⟩, .string ⟨#[]⟩, .string ⟨#[]⟩, .slice none 0 0], .int .i64 0]) ∧ Below w.heap.size w w' := by
  have H1 := Aside0.mk h1
  have hk := back_tr (!tr)
  clear h1
  go_enter Try.func139, Try.ntmps139
  go_wp2_with (first | (go_at_call 18; refine (H1.out _ (by repeat (first | exact Below.refl _ _ | apply below_alloc))).mono ?_; rintro e w1 ⟨rfl, hb⟩; have HB1 : Aside0 (Below w.heap.size w w1) := ⟨below_step (by repeat (first | exact Below.refl _ _ | apply below_alloc)) hb⟩; have HBX1 : Aside0 (Box w1 (w.heap.size + 3)) := ⟨(hb.block _ (by first | (simp; done) | (simp; omega))).trans (by repeat (first | exact blk_at _ _ _ (by simp; done) | (refine (Below.heap_alloc _ _ _ (by first | (simp; done) | (simp; omega))).trans ?_)))⟩; have q0 := HBX1.out.c0; have q1 := HBX1.out.c1; have q2 := HBX1.out.c2; have q3 := HBX1.out.c3; have q4 := HBX1.out.c4; have q5 := HBX1.out.c5; have q6 := HBX1.out.c6; have q7 := HBX1.out.fr; clear hb) | (go_at_call 159; refine (hk _).mono ?_; rintro e w2 ⟨rfl, hb⟩; have HB2 : Aside0 (Below w.heap.size w w2) := ⟨below_step HB1.out hb⟩; have HBX2 := Aside0.mk (Box.mono HBX1.out hb); have q0 := HBX2.out.c0; have q1 := HBX2.out.c1; have q2 := HBX2.out.c2; have q3 := HBX2.out.c3; have q4 := HBX2.out.c4; have q5 := HBX2.out.c5; have q6 := HBX2.out.c6; have q7 := HBX2.out.fr; clear hb))
  (try simp only [Exit.inBlock, Exit.then])
  have hd := HBX2.out.done (.int .i64 1) (.bool (!tr)) (.int .i64 0) (.string ⟨#[]⟩) (.string ⟨#[]⟩) (.string ⟨#[]⟩) (.slice none 0 0)
  have hbl := HB2.out.trans (below_cells (B := w.heap.size) (w.heap.size + 3) (by omega) [.int .i64 1, .bool (!tr), .int .i64 0, .string ⟨#[]⟩, .string ⟨#[]⟩, .string ⟨#[]⟩, .slice none 0 0] 0 w2)
  simp only [World.setCells] at hd hbl
  refine bodyPost_ret (results_row_tmp rfl _ _ (w.heap.size + 3) 31 _ (0, 0) _ rfl hd Try.underlying31 rfl (by kernel_rfl)) rfl ?_
  exact ⟨rfl, hbl⟩
set_option maxRecDepth 100000 in
set_option maxHeartbeats 16000000 in
theorem double_holds_no (A : Option Addr) (l c : Nat) (p0 p1 p2 p3 p4 p5 : ByteArray) (k : Int) (hk : k ≠ 5) (a1 a2 a3 a4 a5 a6 b0 b1 b2 b3 b4 b5 b6 : Value) (w : World) :
    Calls Try.prog 139 #[.agg #[.slice A l c, .string p0, .string p1, .string p2, .string p3, .string p4, .string p5], .int .i64 9, .agg #[.int .i64 k, a1, a2, a3, a4, a5, a6], .agg #[b0, b1, b2, b3, b4, b5, b6]] w fun e w' => e = .returned (.tuple #[.agg #[.int .i64 0, .bool false, .int .i64 0, .string ⟨#[]⟩, .string ⟨#[]⟩, .string ⟨#[]⟩, .slice none 0 0], .int .i64 16]) ∧ Below w.heap.size w w' := by
  have hk0 : (k != 5) = true := bne_iff_ne.mpr hk
  clear hk
  go_enter Try.func139, Try.ntmps139
  go_wp2
  (try simp only [Exit.inBlock, Exit.then])
  refine bodyPost_ret (results_row_tmp rfl _ _ (w.heap.size + 3) 31 _ (0, 0) _ rfl (by repeat (first | exact blk_at _ _ _ (by simp; done) | (refine (Below.heap_alloc _ _ _ (by first | (simp; done) | (simp; omega))).trans ?_))) Try.underlying31 rfl (by kernel_rfl)) rfl ?_
  exact ⟨rfl, by repeat (first | exact Below.refl _ _ | apply below_alloc)⟩
end Go.Proofs.Ytfmghijmcgkpiaa.GE
