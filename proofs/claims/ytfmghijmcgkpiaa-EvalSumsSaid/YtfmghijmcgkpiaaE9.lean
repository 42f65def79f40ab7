import Derived.Test.YtfmghijmcgkpiaaGS0
import Derived.Test.YtfmghijmcgkpiaaE8
namespace Go.Proofs.Ytfmghijmcgkpiaa.GE
open Go.RowKit Go.Proofs.YtfmghijmcgkpiaaW.PrintWords Go.Proofs.YtfmghijmcgkpiaaW.PrintLast Go.Proofs.Ytfmghijmcgkpiaa.HandV Go.Proofs.YtfmghijmcgkpiaaW.PrintMore
open Go.Proofs.Ytfmghijmcgkpiaa.GS
attribute [local go_sem] max2_int min2_int max_two min_two max_three min_three max_four min_four   -- for this text's walks alone
set_option linter.unusedVariables false
set_option linter.unusedSimpArgs false
-- IMPORT .E8
theorem below_realloc {B : Nat} {w W : World} {o o' : Obj} (h : Below B w (W.alloc o)) (hB : B ≤ W.heap.size) : Below B w (W.alloc o') :=
  ⟨h.os, h.tape, h.output, by have := h.size; simpa using this, fun k hk => (Below.heap_alloc W o' k (by omega)).trans ((Below.heap_alloc W o k (by omega)).symm.trans (h.block k hk))⟩
theorem cell_drew {w : World} {a : Addr} {v : Value} (h : w.cell? a = some v) : w.drew.cell? a = some v := h
theorem cell_alloc {w : World} {o : Obj} {a : Addr} {v : Value} (h : w.cell? a = some v) : (w.alloc o).cell? a = some v := ((below_alloc (Below.refl w.heap.size w) o).cell (World.block_lt_of_cell? _ _ h)).trans h
theorem cell_after7_0 {w : World} {b : Nat} {a : Addr} {v c0 c1 c2 c3 c4 c5 c6 : Value} (h : w.cell? a = some v) (hne : a.block ≠ b) : (((((((w.setCell ⟨b, 0, none⟩ c0).setCell ⟨b, 1, none⟩ c1).setCell ⟨b, 2, none⟩ c2).setCell ⟨b, 3, none⟩ c3).setCell ⟨b, 4, none⟩ c4).setCell ⟨b, 5, none⟩ c5).setCell ⟨b, 6, none⟩ c6).cell? a = some v :=
  (World.cell?_of_block (a := a) (heap_after7 c0 c1 c2 c3 c4 c5 c6 hne)).trans h
theorem cell_realloc {w : World} {o o' : Obj} {g j : Nat} {v : Value} (h : (w.alloc o).cell? ⟨g, j, none⟩ = some v) (hlt : g < w.heap.size) : (w.alloc o').cell? ⟨g, j, none⟩ = some v :=
  (World.cell?_of_block (a := ⟨g, j, none⟩) (Below.heap_alloc w o' g hlt)).trans ((World.cell?_of_block (a := ⟨g, j, none⟩) (Below.heap_alloc w o g hlt)).symm.trans h)
theorem cell_realloc0 {w : World} {o o' : Obj} {a : Addr} {v : Value} (h : (w.alloc o).cell? a = some v) (hlt : a.block < w.heap.size) : (w.alloc o').cell? a = some v :=
  ((below_alloc (Below.refl w.heap.size w) o').cell hlt).trans (((below_alloc (Below.refl w.heap.size w) o).cell hlt).symm.trans h)
theorem Box.realloc {w : World} {o o' : Obj} {g : Nat} (h : Box (w.alloc o) g) (hlt : g < w.heap.size) : Box (w.alloc o') g := (Below.heap_alloc w o' g hlt).trans ((Below.heap_alloc w o g hlt).symm.trans h)
/-- Behind a kid: its value in a box, its error; all else as it was. -/
def Got (w : World) (wc ec : Array Value) (r : S31) (er : Int) (s6 s7 : Value) (wx : World) : Prop :=
  ∃ (b : Nat) (A6 : Option Addr) (c6 : Nat), s6 = .pointer (some ⟨b, 0, none⟩) ∧ s7 = .int .i64 er ∧ w.heap.size + 3 ≤ b ∧ wx.heap[b]? = some (.cells #[Value.int .i64 r.f0, Value.bool r.f1, Value.int .i64 r.f2, Value.string r.f3, Value.string r.f4.f0, Value.string r.f4.f1, Value.slice A6 r.f5.length c6] 31 (0, 0)) ∧ (r.f5.length ≤ c6 ∧ Kd.F k31 wx (fun k_ => w.heap.size + 3 ≤ k_) A6 r.f5.length r.f5) ∧
    wx.heap[w.heap.size]? = some (.cells wc 151 (0, 0)) ∧ wx.heap[w.heap.size + 1]? = some (.cells ec 67 (0, 0)) ∧ Box wx (w.heap.size + 1 + 1) ∧ Below w.heap.size w wx
theorem got_alloc {w w' : World} {wc ec : Array Value} {r : S31} {er : Int} {A6 : Option Addr} {c6 N e base : Nat} (hw : w'.heap[w.heap.size]? = some (.cells wc 151 (0, 0))) (he : w'.heap[w.heap.size + 1]? = some (.cells ec 67 (0, 0))) (hN : w.heap.size + 3 ≤ N)
    (hV : Kd.V k31 e w' base (fun k_ => N ≤ k_) (.slice A6 r.f5.length c6) r.f5) (hR : Box w' (w.heap.size + 1 + 1)) (hL : Below w.heap.size w w') :
    Got w wc ec r er (.pointer (some ⟨w'.heap.size, 0, none⟩)) (.int .i64 er) (w'.alloc (.cells #[Value.int .i64 r.f0, Value.bool r.f1, Value.int .i64 r.f2, Value.string r.f3, Value.string r.f4.f0, Value.string r.f4.f1, Value.slice A6 r.f5.length c6] 31)) :=
  ⟨w'.heap.size, A6, c6, rfl, rfl, lt_of_heap hR, blk_new _ _, ⟨(Kd.V_at hV).2.1, Kd.F_mono (Kd.F_alloc (Kd.V_F hV) _) (fun _ h => Nat.le_trans hN h)⟩, (Below.heap_alloc _ _ _ (lt_of_heap hw)).trans hw, (Below.heap_alloc _ _ _ (lt_of_heap he)).trans he, hR.alloc _, below_alloc hL _⟩
theorem got_store {w w' : World} {wc ec : Array Value} {r : S31} {er : Int} {A6 : Option Addr} {c6 N e base g : Nat} (hw : w'.heap[w.heap.size]? = some (.cells wc 151 (0, 0))) (he : w'.heap[w.heap.size + 1]? = some (.cells ec 67 (0, 0))) (hg : w.heap.size + 3 ≤ g) (hN : g + 1 ≤ N)
    (hV : Kd.V k31 e w' base (fun k_ => N ≤ k_) (.slice A6 r.f5.length c6) r.f5) (hQ : Box w' g) (hR : Box w' (w.heap.size + 1 + 1)) (hL : Below w.heap.size w w') :
    Got w wc ec r er (.pointer (some ⟨g, 0, none⟩)) (.int .i64 er) (w'.setCells g 0 [Value.int .i64 r.f0, Value.bool r.f1, Value.int .i64 r.f2, Value.string r.f3, Value.string r.f4.f0, Value.string r.f4.f1, Value.slice A6 r.f5.length c6]) :=
  ⟨g, A6, c6, rfl, rfl, hg, hQ.done _ _ _ _ _ _ _, ⟨(Kd.V_at hV).2.1, Kd.F_mono (Kd.F_step (Kd.V_F hV) (fun k hk _ => heap_after7 _ _ _ _ _ _ _ (by omega))) (fun _ h => Nat.le_trans (by omega) h)⟩, (heap_after7 _ _ _ _ _ _ _ (by omega)).trans hw, (heap_after7 _ _ _ _ _ _ _ (by omega)).trans he, hR.after7 (by omega), below_after7 hL (by omega)⟩
set_option maxRecDepth 100000 in
set_option maxHeartbeats 16000000 in
theorem expr_first_err (p0 p1 p2 p3 p4 p5 : ByteArray) (x k0 : S67) (h6 : 6 < x.f0) (h23 : x.f0 < 23) (hn : 1 ≤ x.f5.length) (hkk0 : x.f5[0]? = some k0) (r0 : S31) (er0 : Int) (her : er0 ≠ 0) (h : ExprOk p0 p1 p2 p3 p4 p5 k0 r0 er0) (A : Option Addr) (c : Nat) (B : Option Addr) (kc : Nat) (w : World) (hl : x.f5.length ≤ kc) (hC : k67.C w B x.f5.length x.f5) :
    Calls Try.prog 97 #[.agg #[.slice A 0 c, .string p0, .string p1, .string p2, .string p3, .string p4, .string p5], .agg #[.int .i64 x.f0, .bool x.f1, .int .i64 x.f2, .string x.f3, .string x.f4.f0, .string x.f4.f1, .slice B x.f5.length kc]] w (Gives w zV er0) := by
  have HE := Aside0.mk h
  have her1 : (er0 != 0) = true := bne_iff_ne.mpr her
  clear h her
  obtain ⟨ad, Ak0, ck0, rfl, z0, z1, z2, z3, z4, z5, z6, hlk0, hck0⟩ := exp_at hC 0 k0 hkk0
  have h0a : ((0 : Int) < (x.f5.length : Int)) = True := eq_true (by have := (List.getElem?_eq_some_iff.1 hkk0).1; omega)
  have h0n : 0 < x.f5.length := (List.getElem?_eq_some_iff.1 hkk0).1
  simp only [Nat.zero_mul, Addr.add_zero_] at z0 z1 z2 z3 z4 z5 z6
  have hadb0 := World.block_lt_of_cell? _ _ z0
  have hadb : ad.block < w.heap.size := hadb0
  clear hadb0
  have HLk0 := Aside0.mk hlk0
  have HCk0 := Aside0.mk hck0
  have HCC := Aside0.mk hC
  have HN := Aside0.mk hn
  clear hlk0 hck0 hC hn
  have hop1 : decide (x.f0 < 6) = false := decide_eq_false (by omega)
  have hop2 : (x.f0 == 6) = false := beq_eq_false_iff_ne.mpr (by omega)
  have hk0 : ((x.f5.length : Int) == 0) = false := beq_eq_false_iff_ne.mpr (by omega)
  have h23b : decide (23 ≤ x.f0) = false := decide_eq_false (by omega)
  have h25b : (x.f0 == 25) = false := beq_eq_false_iff_ne.mpr (by omega)
  have HOP := Aside0.mk (And.intro h6 h23)
  clear h6 h23
  go_enter Try.func97, Try.ntmps97
  go_wp2_with fail
  have g0 : (((w.alloc (Obj.cells #[.slice A 0 c, .string p0, .string p1, .string p2, .string p3, .string p4, .string p5] 151)).alloc (Obj.cells #[.int .i64 x.f0, .bool x.f1, .int .i64 x.f2, .string x.f3, .string x.f4.f0, .string x.f4.f1, .slice (some ad) x.f5.length kc] 67)).alloc (Obj.cells #[.int .i64 0, .bool false, .int .i64 0, .string ⟨#[]⟩, .string ⟨#[]⟩, .string ⟨#[]⟩, .slice none 0 0] 31)).cell? ⟨w.heap.size, 0, none⟩ = some (Value.slice A 0 c) := by go_simp
  have g1 : (((w.alloc (Obj.cells #[.slice A 0 c, .string p0, .string p1, .string p2, .string p3, .string p4, .string p5] 151)).alloc (Obj.cells #[.int .i64 x.f0, .bool x.f1, .int .i64 x.f2, .string x.f3, .string x.f4.f0, .string x.f4.f1, .slice (some ad) x.f5.length kc] 67)).alloc (Obj.cells #[.int .i64 0, .bool false, .int .i64 0, .string ⟨#[]⟩, .string ⟨#[]⟩, .string ⟨#[]⟩, .slice none 0 0] 31)).cell? ⟨w.heap.size, 1, none⟩ = some (Value.string p0) := by go_simp
  have g2 : (((w.alloc (Obj.cells #[.slice A 0 c, .string p0, .string p1, .string p2, .string p3, .string p4, .string p5] 151)).alloc (Obj.cells #[.int .i64 x.f0, .bool x.f1, .int .i64 x.f2, .string x.f3, .string x.f4.f0, .string x.f4.f1, .slice (some ad) x.f5.length kc] 67)).alloc (Obj.cells #[.int .i64 0, .bool false, .int .i64 0, .string ⟨#[]⟩, .string ⟨#[]⟩, .string ⟨#[]⟩, .slice none 0 0] 31)).cell? ⟨w.heap.size, 2, none⟩ = some (Value.string p1) := by go_simp
  have g3 : (((w.alloc (Obj.cells #[.slice A 0 c, .string p0, .string p1, .string p2, .string p3, .string p4, .string p5] 151)).alloc (Obj.cells #[.int .i64 x.f0, .bool x.f1, .int .i64 x.f2, .string x.f3, .string x.f4.f0, .string x.f4.f1, .slice (some ad) x.f5.length kc] 67)).alloc (Obj.cells #[.int .i64 0, .bool false, .int .i64 0, .string ⟨#[]⟩, .string ⟨#[]⟩, .string ⟨#[]⟩, .slice none 0 0] 31)).cell? ⟨w.heap.size, 3, none⟩ = some (Value.string p2) := by go_simp
  have g4 : (((w.alloc (Obj.cells #[.slice A 0 c, .string p0, .string p1, .string p2, .string p3, .string p4, .string p5] 151)).alloc (Obj.cells #[.int .i64 x.f0, .bool x.f1, .int .i64 x.f2, .string x.f3, .string x.f4.f0, .string x.f4.f1, .slice (some ad) x.f5.length kc] 67)).alloc (Obj.cells #[.int .i64 0, .bool false, .int .i64 0, .string ⟨#[]⟩, .string ⟨#[]⟩, .string ⟨#[]⟩, .slice none 0 0] 31)).cell? ⟨w.heap.size, 4, none⟩ = some (Value.string p3) := by go_simp
  have g5 : (((w.alloc (Obj.cells #[.slice A 0 c, .string p0, .string p1, .string p2, .string p3, .string p4, .string p5] 151)).alloc (Obj.cells #[.int .i64 x.f0, .bool x.f1, .int .i64 x.f2, .string x.f3, .string x.f4.f0, .string x.f4.f1, .slice (some ad) x.f5.length kc] 67)).alloc (Obj.cells #[.int .i64 0, .bool false, .int .i64 0, .string ⟨#[]⟩, .string ⟨#[]⟩, .string ⟨#[]⟩, .slice none 0 0] 31)).cell? ⟨w.heap.size, 5, none⟩ = some (Value.string p4) := by go_simp
  have g6 : (((w.alloc (Obj.cells #[.slice A 0 c, .string p0, .string p1, .string p2, .string p3, .string p4, .string p5] 151)).alloc (Obj.cells #[.int .i64 x.f0, .bool x.f1, .int .i64 x.f2, .string x.f3, .string x.f4.f0, .string x.f4.f1, .slice (some ad) x.f5.length kc] 67)).alloc (Obj.cells #[.int .i64 0, .bool false, .int .i64 0, .string ⟨#[]⟩, .string ⟨#[]⟩, .string ⟨#[]⟩, .slice none 0 0] 31)).cell? ⟨w.heap.size, 6, none⟩ = some (Value.string p5) := by go_simp
  have e0 : (((w.alloc (Obj.cells #[.slice A 0 c, .string p0, .string p1, .string p2, .string p3, .string p4, .string p5] 151)).alloc (Obj.cells #[.int .i64 x.f0, .bool x.f1, .int .i64 x.f2, .string x.f3, .string x.f4.f0, .string x.f4.f1, .slice (some ad) x.f5.length kc] 67)).alloc (Obj.cells #[.int .i64 0, .bool false, .int .i64 0, .string ⟨#[]⟩, .string ⟨#[]⟩, .string ⟨#[]⟩, .slice none 0 0] 31)).cell? ⟨w.heap.size + 1, 0, none⟩ = some (Value.int .i64 x.f0) := by go_simp
  have e1 : (((w.alloc (Obj.cells #[.slice A 0 c, .string p0, .string p1, .string p2, .string p3, .string p4, .string p5] 151)).alloc (Obj.cells #[.int .i64 x.f0, .bool x.f1, .int .i64 x.f2, .string x.f3, .string x.f4.f0, .string x.f4.f1, .slice (some ad) x.f5.length kc] 67)).alloc (Obj.cells #[.int .i64 0, .bool false, .int .i64 0, .string ⟨#[]⟩, .string ⟨#[]⟩, .string ⟨#[]⟩, .slice none 0 0] 31)).cell? ⟨w.heap.size + 1, 1, none⟩ = some (Value.bool x.f1) := by go_simp
  have e2 : (((w.alloc (Obj.cells #[.slice A 0 c, .string p0, .string p1, .string p2, .string p3, .string p4, .string p5] 151)).alloc (Obj.cells #[.int .i64 x.f0, .bool x.f1, .int .i64 x.f2, .string x.f3, .string x.f4.f0, .string x.f4.f1, .slice (some ad) x.f5.length kc] 67)).alloc (Obj.cells #[.int .i64 0, .bool false, .int .i64 0, .string ⟨#[]⟩, .string ⟨#[]⟩, .string ⟨#[]⟩, .slice none 0 0] 31)).cell? ⟨w.heap.size + 1, 2, none⟩ = some (Value.int .i64 x.f2) := by go_simp
  have e3 : (((w.alloc (Obj.cells #[.slice A 0 c, .string p0, .string p1, .string p2, .string p3, .string p4, .string p5] 151)).alloc (Obj.cells #[.int .i64 x.f0, .bool x.f1, .int .i64 x.f2, .string x.f3, .string x.f4.f0, .string x.f4.f1, .slice (some ad) x.f5.length kc] 67)).alloc (Obj.cells #[.int .i64 0, .bool false, .int .i64 0, .string ⟨#[]⟩, .string ⟨#[]⟩, .string ⟨#[]⟩, .slice none 0 0] 31)).cell? ⟨w.heap.size + 1, 3, none⟩ = some (Value.string x.f3) := by go_simp
  have e4 : (((w.alloc (Obj.cells #[.slice A 0 c, .string p0, .string p1, .string p2, .string p3, .string p4, .string p5] 151)).alloc (Obj.cells #[.int .i64 x.f0, .bool x.f1, .int .i64 x.f2, .string x.f3, .string x.f4.f0, .string x.f4.f1, .slice (some ad) x.f5.length kc] 67)).alloc (Obj.cells #[.int .i64 0, .bool false, .int .i64 0, .string ⟨#[]⟩, .string ⟨#[]⟩, .string ⟨#[]⟩, .slice none 0 0] 31)).cell? ⟨w.heap.size + 1, 4, none⟩ = some (Value.string x.f4.f0) := by go_simp
  have e5 : (((w.alloc (Obj.cells #[.slice A 0 c, .string p0, .string p1, .string p2, .string p3, .string p4, .string p5] 151)).alloc (Obj.cells #[.int .i64 x.f0, .bool x.f1, .int .i64 x.f2, .string x.f3, .string x.f4.f0, .string x.f4.f1, .slice (some ad) x.f5.length kc] 67)).alloc (Obj.cells #[.int .i64 0, .bool false, .int .i64 0, .string ⟨#[]⟩, .string ⟨#[]⟩, .string ⟨#[]⟩, .slice none 0 0] 31)).cell? ⟨w.heap.size + 1, 5, none⟩ = some (Value.string x.f4.f1) := by go_simp
  have e6 : (((w.alloc (Obj.cells #[.slice A 0 c, .string p0, .string p1, .string p2, .string p3, .string p4, .string p5] 151)).alloc (Obj.cells #[.int .i64 x.f0, .bool x.f1, .int .i64 x.f2, .string x.f3, .string x.f4.f0, .string x.f4.f1, .slice (some ad) x.f5.length kc] 67)).alloc (Obj.cells #[.int .i64 0, .bool false, .int .i64 0, .string ⟨#[]⟩, .string ⟨#[]⟩, .string ⟨#[]⟩, .slice none 0 0] 31)).cell? ⟨w.heap.size + 1, 6, none⟩ = some (Value.slice (some ad) x.f5.length kc) := by go_simp
  have xl : Below w.heap.size w (((w.alloc (Obj.cells #[.slice A 0 c, .string p0, .string p1, .string p2, .string p3, .string p4, .string p5] 151)).alloc (Obj.cells #[.int .i64 x.f0, .bool x.f1, .int .i64 x.f2, .string x.f3, .string x.f4.f0, .string x.f4.f1, .slice (some ad) x.f5.length kc] 67)).alloc (Obj.cells #[.int .i64 0, .bool false, .int .i64 0, .string ⟨#[]⟩, .string ⟨#[]⟩, .string ⟨#[]⟩, .slice none 0 0] 31)) := by repeat (first | exact Below.refl _ _ | apply below_alloc)
  replace z0 := (xl.cell (World.block_lt_of_cell? _ _ z0)).trans z0
  replace z1 := (xl.cell (World.block_lt_of_cell? _ _ z1)).trans z1
  replace z2 := (xl.cell (World.block_lt_of_cell? _ _ z2)).trans z2
  replace z3 := (xl.cell (World.block_lt_of_cell? _ _ z3)).trans z3
  replace z4 := (xl.cell (World.block_lt_of_cell? _ _ z4)).trans z4
  replace z5 := (xl.cell (World.block_lt_of_cell? _ _ z5)).trans z5
  replace z6 := (xl.cell (World.block_lt_of_cell? _ _ z6)).trans z6
  have xb : Box (((w.alloc (Obj.cells #[.slice A 0 c, .string p0, .string p1, .string p2, .string p3, .string p4, .string p5] 151)).alloc (Obj.cells #[.int .i64 x.f0, .bool x.f1, .int .i64 x.f2, .string x.f3, .string x.f4.f0, .string x.f4.f1, .slice (some ad) x.f5.length kc] 67)).alloc (Obj.cells #[.int .i64 0, .bool false, .int .i64 0, .string ⟨#[]⟩, .string ⟨#[]⟩, .string ⟨#[]⟩, .slice none 0 0] 31)) (w.heap.size + 1 + 1) := (by repeat (first | exact blk_at _ _ _ (by simp; done) | (refine (Below.heap_alloc _ _ _ (by first | (simp; done) | (simp; omega))).trans ?_)))
  have xs : (((w.alloc (Obj.cells #[.slice A 0 c, .string p0, .string p1, .string p2, .string p3, .string p4, .string p5] 151)).alloc (Obj.cells #[.int .i64 x.f0, .bool x.f1, .int .i64 x.f2, .string x.f3, .string x.f4.f0, .string x.f4.f1, .slice (some ad) x.f5.length kc] 67)).alloc (Obj.cells #[.int .i64 0, .bool false, .int .i64 0, .string ⟨#[]⟩, .string ⟨#[]⟩, .string ⟨#[]⟩, .slice none 0 0] 31)).heap.size = w.heap.size + 1 + 1 + 1 := by simp
  have xw : (((w.alloc (Obj.cells #[.slice A 0 c, .string p0, .string p1, .string p2, .string p3, .string p4, .string p5] 151)).alloc (Obj.cells #[.int .i64 x.f0, .bool x.f1, .int .i64 x.f2, .string x.f3, .string x.f4.f0, .string x.f4.f1, .slice (some ad) x.f5.length kc] 67)).alloc (Obj.cells #[.int .i64 0, .bool false, .int .i64 0, .string ⟨#[]⟩, .string ⟨#[]⟩, .string ⟨#[]⟩, .slice none 0 0] 31)).heap[w.heap.size]? = some (.cells #[Value.slice A 0 c, Value.string p0, Value.string p1, Value.string p2, Value.string p3, Value.string p4, Value.string p5] 151 (0, 0)) := (by repeat (first | exact blk_at _ _ _ (by simp; done) | (refine (Below.heap_alloc _ _ _ (by first | (simp; done) | (simp; omega))).trans ?_)))
  have xe : (((w.alloc (Obj.cells #[.slice A 0 c, .string p0, .string p1, .string p2, .string p3, .string p4, .string p5] 151)).alloc (Obj.cells #[.int .i64 x.f0, .bool x.f1, .int .i64 x.f2, .string x.f3, .string x.f4.f0, .string x.f4.f1, .slice (some ad) x.f5.length kc] 67)).alloc (Obj.cells #[.int .i64 0, .bool false, .int .i64 0, .string ⟨#[]⟩, .string ⟨#[]⟩, .string ⟨#[]⟩, .slice none 0 0] 31)).heap[w.heap.size + 1]? = some (.cells #[Value.int .i64 x.f0, Value.bool x.f1, Value.int .i64 x.f2, Value.string x.f3, Value.string x.f4.f0, Value.string x.f4.f1, Value.slice (some ad) x.f5.length kc] 67 (0, 0)) := (by repeat (first | exact blk_at _ _ _ (by simp; done) | (refine (Below.heap_alloc _ _ _ (by first | (simp; done) | (simp; omega))).trans ?_)))
  have XW := Aside0.mk xw
  have XE := Aside0.mk xe
  clear xw xe
  generalize (((w.alloc (Obj.cells #[.slice A 0 c, .string p0, .string p1, .string p2, .string p3, .string p4, .string p5] 151)).alloc (Obj.cells #[.int .i64 x.f0, .bool x.f1, .int .i64 x.f2, .string x.f3, .string x.f4.f0, .string x.f4.f1, .slice (some ad) x.f5.length kc] 67)).alloc (Obj.cells #[.int .i64 0, .bool false, .int .i64 0, .string ⟨#[]⟩, .string ⟨#[]⟩, .string ⟨#[]⟩, .slice none 0 0] 31)) = V at g0 g1 g2 g3 g4 g5 g6 e0 e1 e2 e3 e4 e5 e6 z0 z1 z2 z3 z4 z5 z6 xb xl xs XW XE ⊢
  have y0 : V.drew.cell? ⟨w.heap.size, 0, none⟩ = some (Value.slice A 0 c) := g0
  have y1 : V.drew.cell? ⟨w.heap.size, 1, none⟩ = some (Value.string p0) := g1
  have y2 : V.drew.cell? ⟨w.heap.size, 2, none⟩ = some (Value.string p1) := g2
  have y3 : V.drew.cell? ⟨w.heap.size, 3, none⟩ = some (Value.string p2) := g3
  have y4 : V.drew.cell? ⟨w.heap.size, 4, none⟩ = some (Value.string p3) := g4
  have y5 : V.drew.cell? ⟨w.heap.size, 5, none⟩ = some (Value.string p4) := g5
  have y6 : V.drew.cell? ⟨w.heap.size, 6, none⟩ = some (Value.string p5) := g6
  have y7 : V.drew.cell? ⟨w.heap.size + 1, 0, none⟩ = some (Value.int .i64 x.f0) := e0
  have y8 : V.drew.cell? ⟨w.heap.size + 1, 1, none⟩ = some (Value.bool x.f1) := e1
  have y9 : V.drew.cell? ⟨w.heap.size + 1, 2, none⟩ = some (Value.int .i64 x.f2) := e2
  have y10 : V.drew.cell? ⟨w.heap.size + 1, 3, none⟩ = some (Value.string x.f3) := e3
  have y11 : V.drew.cell? ⟨w.heap.size + 1, 4, none⟩ = some (Value.string x.f4.f0) := e4
  have y12 : V.drew.cell? ⟨w.heap.size + 1, 5, none⟩ = some (Value.string x.f4.f1) := e5
  have y13 : V.drew.cell? ⟨w.heap.size + 1, 6, none⟩ = some (Value.slice (some ad) x.f5.length kc) := e6
  have y14 : V.drew.cell? ad = some (Value.int .i64 k0.f0) := z0
  have y15 : V.drew.cell? ⟨ad.block, ad.off + 1, none⟩ = some (Value.bool k0.f1) := z1
  have y16 : V.drew.cell? ⟨ad.block, ad.off + 2, none⟩ = some (Value.int .i64 k0.f2) := z2
  have y17 : V.drew.cell? ⟨ad.block, ad.off + 3, none⟩ = some (Value.string k0.f3) := z3
  have y18 : V.drew.cell? ⟨ad.block, ad.off + 4, none⟩ = some (Value.string k0.f4.f0) := z4
  have y19 : V.drew.cell? ⟨ad.block, ad.off + 5, none⟩ = some (Value.string k0.f4.f1) := z5
  have y20 : V.drew.cell? ⟨ad.block, ad.off + 6, none⟩ = some (Value.slice Ak0 k0.f5.length ck0) := z6
  have yb : Box V.drew (w.heap.size + 1 + 1) := xb
  have yl : Below w.heap.size w V.drew := below_drew1 xl
  have ys : V.drew.heap.size = w.heap.size + 1 + 1 + 1 := xs
  go_cut [6, 7] from 63 to 71 (fun s6 s7 wx => Got w #[Value.slice A 0 c, Value.string p0, Value.string p1, Value.string p2, Value.string p3, Value.string p4, Value.string p5] #[Value.int .i64 x.f0, Value.bool x.f1, Value.int .i64 x.f2, Value.string x.f3, Value.string x.f4.f0, Value.string x.f4.f1, Value.slice (some ad) x.f5.length kc] r0 er0 s6 s7 wx)
  case first =>
    go_region_held3 (fun W => W.cell? ⟨w.heap.size, 0, none⟩ = some (Value.slice A 0 c) ∧ W.cell? ⟨w.heap.size, 1, none⟩ = some (Value.string p0) ∧ W.cell? ⟨w.heap.size, 2, none⟩ = some (Value.string p1) ∧ W.cell? ⟨w.heap.size, 3, none⟩ = some (Value.string p2) ∧ W.cell? ⟨w.heap.size, 4, none⟩ = some (Value.string p3) ∧ W.cell? ⟨w.heap.size, 5, none⟩ = some (Value.string p4) ∧ W.cell? ⟨w.heap.size, 6, none⟩ = some (Value.string p5) ∧ W.cell? ⟨w.heap.size + 1, 0, none⟩ = some (Value.int .i64 x.f0) ∧ W.cell? ⟨w.heap.size + 1, 1, none⟩ = some (Value.bool x.f1) ∧ W.cell? ⟨w.heap.size + 1, 2, none⟩ = some (Value.int .i64 x.f2) ∧ W.cell? ⟨w.heap.size + 1, 3, none⟩ = some (Value.string x.f3) ∧ W.cell? ⟨w.heap.size + 1, 4, none⟩ = some (Value.string x.f4.f0) ∧ W.cell? ⟨w.heap.size + 1, 5, none⟩ = some (Value.string x.f4.f1) ∧ W.cell? ⟨w.heap.size + 1, 6, none⟩ = some (Value.slice (some ad) x.f5.length kc) ∧ W.cell? ad = some (Value.int .i64 k0.f0) ∧ W.cell? ⟨ad.block, ad.off + 1, none⟩ = some (Value.bool k0.f1) ∧ W.cell? ⟨ad.block, ad.off + 2, none⟩ = some (Value.int .i64 k0.f2) ∧ W.cell? ⟨ad.block, ad.off + 3, none⟩ = some (Value.string k0.f3) ∧ W.cell? ⟨ad.block, ad.off + 4, none⟩ = some (Value.string k0.f4.f0) ∧ W.cell? ⟨ad.block, ad.off + 5, none⟩ = some (Value.string k0.f4.f1) ∧ W.cell? ⟨ad.block, ad.off + 6, none⟩ = some (Value.slice Ak0 k0.f5.length ck0) ∧ Box W (w.heap.size + 1 + 1) ∧ Below w.heap.size w W)
      ((first | ((try go_split_ands); refine ⟨?_, ?_, ?_, ?_, ?_, ?_, ?_, ?_, ?_, ?_, ?_, ?_, ?_, ?_, ?_, ?_, ?_, ?_, ?_, ?_, ?_, ?_, ?_⟩ <;> first | (with_reducible assumption) | (with_reducible exact cell_after7 (by with_reducible assumption) (by omega)) | (with_reducible exact cell_after7_0 (by with_reducible assumption) (by omega)) | (with_reducible exact below_after7 (by with_reducible assumption) (by omega)) | (with_reducible exact Box.after7 (by with_reducible assumption) (by omega)) | (with_reducible exact (hb.cell (World.block_lt_of_cell? _ _ (by with_reducible assumption))).trans (by with_reducible assumption)) | (with_reducible exact below_step (by with_reducible assumption) hb) | (with_reducible exact Box.mono (by with_reducible assumption) hb) | (with_reducible exact cell_alloc (by with_reducible assumption)) | (with_reducible exact cell_drew (cell_alloc (by with_reducible assumption))) | (with_reducible exact below_drew1 (below_alloc (by with_reducible assumption) _)) | (with_reducible exact Box.drew (Box.alloc (by with_reducible assumption) _)) | (with_reducible exact below_alloc (by with_reducible assumption) _) | (with_reducible exact Box.alloc (by with_reducible assumption) _) | (with_reducible exact cell_realloc (by with_reducible assumption) (by omega)) | (with_reducible exact cell_realloc0 (by with_reducible assumption) (by omega)) | (with_reducible exact Box.realloc (by with_reducible assumption) (by omega)) | (with_reducible exact below_alloc HL.out _) | (with_reducible exact below_realloc (by with_reducible assumption) (by omega)))))
      ((first | (go_at_call 97; refine (HE.out _ _ _ _ _ HLk0.out (Kd.C_below HCk0.out ?_)).mono ?_; (first | (with_reducible exact yl) | (with_reducible exact below_drew1 (below_alloc xl _)) | (with_reducible exact below_alloc yl _)); rintro e w' ⟨v6, rfl, hV, hb⟩; obtain ⟨A6, c6, rfl⟩ := Kd.V_slice hV; have HV := Aside0.mk hV; have HBB := Aside0.mk hb; have HR : Aside0 (Box w' (w.heap.size + 1 + 1)) := ⟨by first | (with_reducible exact Box.mono yb hb) | (with_reducible exact Box.mono (Box.drew (Box.alloc xb _)) hb) | (with_reducible exact Box.mono (Box.alloc yb _) hb)⟩; have HL : Aside0 (Below w.heap.size w w') := ⟨by first | (with_reducible exact below_step yl hb) | (with_reducible exact below_step (below_drew1 (below_alloc xl _)) hb) | (with_reducible exact below_step (below_alloc yl _) hb)⟩; have hsz := lt_of_heap HR.out; first | (have HQ : Box w' (w.heap.size + 1 + 1 + 1) := (hb.block _ (by simp [xs]; done)).trans (by rw [← xs]; exact blk_new _ _); have q0 := HQ.c0; have q1 := HQ.c1; have q2 := HQ.c2; have q3 := HQ.c3; have q4 := HQ.c4; have q5 := HQ.c5; have q6 := HQ.c6; have q7 := HQ.fr; have HQA := Aside0.mk HQ) | skip)))
    all_goals go_split_ands
    all_goals (go_wp2_with fail)
    all_goals go_meet
    all_goals have hvw : w'.heap[w.heap.size]? = some (.cells #[Value.slice A 0 c, Value.string p0, Value.string p1, Value.string p2, Value.string p3, Value.string p4, Value.string p5] 151 (0, 0)) := (HBB.out.block _ (by simp [xs] <;> omega)).trans (by first | (exact XW.out) | (exact (Below.heap_alloc _ _ _ (by omega)).trans XW.out))
    all_goals have hve : w'.heap[w.heap.size + 1]? = some (.cells #[Value.int .i64 x.f0, Value.bool x.f1, Value.int .i64 x.f2, Value.string x.f3, Value.string x.f4.f0, Value.string x.f4.f1, Value.slice (some ad) x.f5.length kc] 67 (0, 0)) := (HBB.out.block _ (by simp [xs] <;> omega)).trans (by first | (exact XE.out) | (exact (Below.heap_alloc _ _ _ (by omega)).trans XE.out))
    all_goals first | (exact got_alloc hvw hve (by simp [xs]) HV.out HR.out HL.out) | (exact got_store hvw hve (by omega) (by simp [xs]) HV.out HQA.out HR.out HL.out)
  case rest =>
    obtain ⟨b, A6, c6, rfl, rfl, hbb, hbx, ⟨hbl, hbF⟩, gw, ge, gb, gl⟩ := hcut
    have HGB := Aside0.mk gb
    have HGL := Aside0.mk gl
    have q0 := gb.c0
    have q1 := gb.c1
    have q2 := gb.c2
    have q3 := gb.c3
    have q4 := gb.c4
    have q5 := gb.c5
    have q6 := gb.c6
    have q7 := gb.fr
    clear gb gl
    go_wp2_with fail
    (try simp only [Exit.inBlock, Exit.then])
    have hd := HGB.out.done (.int .i64 0) (.bool false) (.int .i64 0) (.string ⟨#[]⟩) (.string ⟨#[]⟩) (.string ⟨#[]⟩) (.slice none 0 0)
    have hbl := HGL.out.trans (below_cells (B := w.heap.size) (w.heap.size + 1 + 1) (by omega) [.int .i64 0, .bool false, .int .i64 0, .string ⟨#[]⟩, .string ⟨#[]⟩, .string ⟨#[]⟩, .slice none 0 0] 0 wc)
    simp only [World.setCells] at hd hbl
    refine bodyPost_ret (results_row_tmp rfl _ _ (w.heap.size + 1 + 1) 31 _ (0, 0) _ rfl hd Try.underlying31 rfl (by kernel_rfl)) rfl ?_
    exact ⟨_, rfl, Kd.V_nil _ _ _ _ _, hbl⟩
end Go.Proofs.Ytfmghijmcgkpiaa.GE
