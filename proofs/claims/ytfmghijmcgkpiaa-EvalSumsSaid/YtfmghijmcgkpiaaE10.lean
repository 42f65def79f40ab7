import Derived.Test.YtfmghijmcgkpiaaGS0
import Derived.Test.YtfmghijmcgkpiaaE9
namespace Go.Proofs.Ytfmghijmcgkpiaa.GE
open Go.RowKit Go.Proofs.YtfmghijmcgkpiaaW.PrintWords Go.Proofs.YtfmghijmcgkpiaaW.PrintLast Go.Proofs.Ytfmghijmcgkpiaa.HandV Go.Proofs.YtfmghijmcgkpiaaW.PrintMore
open Go.Proofs.Ytfmghijmcgkpiaa.GS
attribute [local go_sem] max2_int min2_int max_two min_two max_three min_three max_four min_four   -- for this text's walks alone
set_option linter.unusedVariables false
set_option linter.unusedSimpArgs false
-- IMPORT .E9
set_option maxRecDepth 100000 in
set_option maxHeartbeats 16000000 in
theorem expr_one (p0 p1 p2 p3 p4 p5 : ByteArray) (x k0 : S67) (h6 : 6 < x.f0) (h23 : x.f0 < 23) (hn1 : x.f5.length = 1) (hkk0 : x.f5[0]? = some k0) (r0 : S31) (h : ExprOk p0 p1 p2 p3 p4 p5 k0 r0 0) (A : Option Addr) (c : Nat) (B : Option Addr) (kc : Nat) (w : World) (hl : x.f5.length ≤ kc) (hC : k67.C w B x.f5.length x.f5)
    (r : S31) (er : Int) (h1 : ∀ (A6 : Option Addr) (c6 : Nat) (W : World), Below w.heap.size w W → Calls Try.prog 138 #[.agg #[.slice A 0 c, .string p0, .string p1, .string p2, .string p3, .string p4, .string p5], .agg #[.int .i64 x.f0, .bool x.f1, .int .i64 x.f2, .string x.f3, .string x.f4.f0, .string x.f4.f1, .slice B x.f5.length kc], .agg #[.int .i64 r0.f0, .bool r0.f1, .int .i64 r0.f2, .string r0.f3, .string r0.f4.f0, .string r0.f4.f1, .slice A6 r0.f5.length c6]] W (Gives W r er)) :
    Calls Try.prog 97 #[.agg #[.slice A 0 c, .string p0, .string p1, .string p2, .string p3, .string p4, .string p5], .agg #[.int .i64 x.f0, .bool x.f1, .int .i64 x.f2, .string x.f3, .string x.f4.f0, .string x.f4.f1, .slice B x.f5.length kc]] w (Gives w r er) := by
  have hn : 1 ≤ x.f5.length := by omega
  have HE := Aside0.mk h
  have H1 := Aside0.mk h1
  have HN1 := Aside0.mk hn1
  have her1 : ((0 : Int) != 0) = false := rfl
  have hlen : ((x.f5.length : Int) == 1) = true := beq_iff_eq.mpr (by omega)
  clear h h1 hn1
  obtain ⟨ad, Ak0, ck0, rfl, z0, z1, z2, z3, z4, z5, z6, hlk0, hck0⟩ := exp_at hC 0 k0 hkk0
  have h0a : ((0 : Int) < (x.f5.length : Int)) = True := eq_true (by have := (List.getElem?_eq_some_iff.1 hkk0).1; omega)
  have h0n : 0 < x.f5.length := (List.getElem?_eq_some_iff.1 hkk0).1
  simp only [Nat.zero_mul, Addr.add_zero_] at z0 z1 z2 z3 z4 z5 z6
  have hadb0 := World.block_lt_of_cell? _ _ z0
  have hadb : ad.block < w.heap.size := hadb0
  clear hadb0
  have HLk0 := Aside0.mk hlk0
  have HCk0 := Aside0.mk hck0
  have HCC := Aside0.mk hC
  have HN := Aside0.mk hn
  clear hlk0 hck0 hC hn
  have hop1 : decide (x.f0 < 6) = false := decide_eq_false (by omega)
  have hop2 : (x.f0 == 6) = false := beq_eq_false_iff_ne.mpr (by omega)
  have hk0 : ((x.f5.length : Int) == 0) = false := beq_eq_false_iff_ne.mpr (by omega)
  have h23b : decide (23 ≤ x.f0) = false := decide_eq_false (by omega)
  have h25b : (x.f0 == 25) = false := beq_eq_false_iff_ne.mpr (by omega)
  have HOP := Aside0.mk (And.intro h6 h23)
  clear h6 h23
  go_enter Try.func97, Try.ntmps97
  go_wp2_with fail
  have g0 : (((w.alloc (Obj.cells #[.slice A 0 c, .string p0, .string p1, .string p2, .string p3, .string p4, .string p5] 151)).alloc (Obj.cells #[.int .i64 x.f0, .bool x.f1, .int .i64 x.f2, .string x.f3, .string x.f4.f0, .string x.f4.f1, .slice (some ad) x.f5.length kc] 67)).alloc (Obj.cells #[.int .i64 0, .bool false, .int .i64 0, .string ⟨#[]⟩, .string ⟨#[]⟩, .string ⟨#[]⟩, .slice none 0 0] 31)).cell? ⟨w.heap.size, 0, none⟩ = some (Value.slice A 0 c) := by go_simp
  have g1 : (((w.alloc (Obj.cells #[.slice A 0 c, .string p0, .string p1, .string p2, .string p3, .string p4, .string p5] 151)).alloc (Obj.cells #[.int .i64 x.f0, .bool x.f1, .int .i64 x.f2, .string x.f3, .string x.f4.f0, .string x.f4.f1, .slice (some ad) x.f5.length kc] 67)).alloc (Obj.cells #[.int .i64 0, .bool false, .int .i64 0, .string ⟨#[]⟩, .string ⟨#[]⟩, .string ⟨#[]⟩, .slice none 0 0] 31)).cell? ⟨w.heap.size, 1, none⟩ = some (Value.string p0) := by go_simp
  have g2 : (((w.alloc (Obj.cells #[.slice A 0 c, .string p0, .string p1, .string p2, .string p3, .string p4, .string p5] 151)).alloc (Obj.cells #[.int .i64 x.f0, .bool x.f1, .int .i64 x.f2, .string x.f3, .string x.f4.f0, .string x.f4.f1, .slice (some ad) x.f5.length kc] 67)).alloc (Obj.cells #[.int .i64 0, .bool false, .int .i64 0, .string ⟨#[]⟩, .string ⟨#[]⟩, .string ⟨#[]⟩, .slice none 0 0] 31)).cell? ⟨w.heap.size, 2, none⟩ = some (Value.string p1) := by go_simp
  have g3 : (((w.alloc (Obj.cells #[.slice A 0 c, .string p0, .string p1, .string p2, .string p3, .string p4, .string p5] 151)).alloc (Obj.cells #[.int .i64 x.f0, .bool x.f1, .int .i64 x.f2, .string x.f3, .string x.f4.f0, .string x.f4.f1, .slice (some ad) x.f5.length kc] 67)).alloc (Obj.cells #[.int .i64 0, .bool false, .int .i64 0, .string ⟨#[]⟩, .string ⟨#[]⟩, .string ⟨#[]⟩, .slice none 0 0] 31)).cell? ⟨w.heap.size, 3, none⟩ = some (Value.string p2) := by go_simp
  have g4 : (((w.alloc (Obj.cells #[.slice A 0 c, .string p0, .string p1, .string p2, .string p3, .string p4, .string p5] 151)).alloc (Obj.cells #[.int .i64 x.f0, .bool x.f1, .int .i64 x.f2, .string x.f3, .string x.f4.f0, .string x.f4.f1, .slice (some ad) x.f5.length kc] 67)).alloc (Obj.cells #[.int .i64 0, .bool false, .int .i64 0, .string ⟨#[]⟩, .string ⟨#[]⟩, .string ⟨#[]⟩, .slice none 0 0] 31)).cell? ⟨w.heap.size, 4, none⟩ = some (Value.string p3) := by go_simp
  have g5 : (((w.alloc (Obj.cells #[.slice A 0 c, .string p0, .string p1, .string p2, .string p3, .string p4, .string p5] 151)).alloc (Obj.cells #[.int .i64 x.f0, .bool x.f1, .int .i64 x.f2, .string x.f3, .string x.f4.f0, .string x.f4.f1, .slice (some ad) x.f5.length kc] 67)).alloc (Obj.cells #[.int .i64 0, .bool false, .int .i64 0, .string ⟨#[]⟩, .string ⟨#[]⟩, .string ⟨#[]⟩, .slice none 0 0] 31)).cell? ⟨w.heap.size, 5, none⟩ = some (Value.string p4) := by go_simp
  have g6 : (((w.alloc (Obj.cells #[.slice A 0 c, .string p0, .string p1, .string p2, .string p3, .string p4, .string p5] 151)).alloc (Obj.cells #[.int .i64 x.f0, .bool x.f1, .int .i64 x.f2, .string x.f3, .string x.f4.f0, .string x.f4.f1, .slice (some ad) x.f5.length kc] 67)).alloc (Obj.cells #[.int .i64 0, .bool false, .int .i64 0, .string ⟨#[]⟩, .string ⟨#[]⟩, .string ⟨#[]⟩, .slice none 0 0] 31)).cell? ⟨w.heap.size, 6, none⟩ = some (Value.string p5) := by go_simp
  have e0 : (((w.alloc (Obj.cells #[.slice A 0 c, .string p0, .string p1, .string p2, .string p3, .string p4, .string p5] 151)).alloc (Obj.cells #[.int .i64 x.f0, .bool x.f1, .int .i64 x.f2, .string x.f3, .string x.f4.f0, .string x.f4.f1, .slice (some ad) x.f5.length kc] 67)).alloc (Obj.cells #[.int .i64 0, .bool false, .int .i64 0, .string ⟨#[]⟩, .string ⟨#[]⟩, .string ⟨#[]⟩, .slice none 0 0] 31)).cell? ⟨w.heap.size + 1, 0, none⟩ = some (Value.int .i64 x.f0) := by go_simp
  have e1 : (((w.alloc (Obj.cells #[.slice A 0 c, .string p0, .string p1, .string p2, .string p3, .string p4, .string p5] 151)).alloc (Obj.cells #[.int .i64 x.f0, .bool x.f1, .int .i64 x.f2, .string x.f3, .string x.f4.f0, .string x.f4.f1, .slice (some ad) x.f5.length kc] 67)).alloc (Obj.cells #[.int .i64 0, .bool false, .int .i64 0, .string ⟨#[]⟩, .string ⟨#[]⟩, .string ⟨#[]⟩, .slice none 0 0] 31)).cell? ⟨w.heap.size + 1, 1, none⟩ = some (Value.bool x.f1) := by go_simp
  have e2 : (((w.alloc (Obj.cells #[.slice A 0 c, .string p0, .string p1, .string p2, .string p3, .string p4, .string p5] 151)).alloc (Obj.cells #[.int .i64 x.f0, .bool x.f1, .int .i64 x.f2, .string x.f3, .string x.f4.f0, .string x.f4.f1, .slice (some ad) x.f5.length kc] 67)).alloc (Obj.cells #[.int .i64 0, .bool false, .int .i64 0, .string ⟨#[]⟩, .string ⟨#[]⟩, .string ⟨#[]⟩, .slice none 0 0] 31)).cell? ⟨w.heap.size + 1, 2, none⟩ = some (Value.int .i64 x.f2) := by go_simp
  have e3 : (((w.alloc (Obj.cells #[.slice A 0 c, .string p0, .string p1, .string p2, .string p3, .string p4, .string p5] 151)).alloc (Obj.cells #[.int .i64 x.f0, .bool x.f1, .int .i64 x.f2, .string x.f3, .string x.f4.f0, .string x.f4.f1, .slice (some ad) x.f5.length kc] 67)).alloc (Obj.cells #[.int .i64 0, .bool false, .int .i64 0, .string ⟨#[]⟩, .string ⟨#[]⟩, .string ⟨#[]⟩, .slice none 0 0] 31)).cell? ⟨w.heap.size + 1, 3, none⟩ = some (Value.string x.f3) := by go_simp
  have e4 : (((w.alloc (Obj.cells #[.slice A 0 c, .string p0, .string p1, .string p2, .string p3, .string p4, .string p5] 151)).alloc (Obj.cells #[.int .i64 x.f0, .bool x.f1, .int .i64 x.f2, .string x.f3, .string x.f4.f0, .string x.f4.f1, .slice (some ad) x.f5.length kc] 67)).alloc (Obj.cells #[.int .i64 0, .bool false, .int .i64 0, .string ⟨#[]⟩, .string ⟨#[]⟩, .string ⟨#[]⟩, .slice none 0 0] 31)).cell? ⟨w.heap.size + 1, 4, none⟩ = some (Value.string x.f4.f0) := by go_simp
  have e5 : (((w.alloc (Obj.cells #[.slice A 0 c, .string p0, .string p1, .string p2, .string p3, .string p4, .string p5] 151)).alloc (Obj.cells #[.int .i64 x.f0, .bool x.f1, .int .i64 x.f2, .string x.f3, .string x.f4.f0, .string x.f4.f1, .slice (some ad) x.f5.length kc] 67)).alloc (Obj.cells #[.int .i64 0, .bool false, .int .i64 0, .string ⟨#[]⟩, .string ⟨#[]⟩, .string ⟨#[]⟩, .slice none 0 0] 31)).cell? ⟨w.heap.size + 1, 5, none⟩ = some (Value.string x.f4.f1) := by go_simp
  have e6 : (((w.alloc (Obj.cells #[.slice A 0 c, .string p0, .string p1, .string p2, .string p3, .string p4, .string p5] 151)).alloc (Obj.cells #[.int .i64 x.f0, .bool x.f1, .int .i64 x.f2, .string x.f3, .string x.f4.f0, .string x.f4.f1, .slice (some ad) x.f5.length kc] 67)).alloc (Obj.cells #[.int .i64 0, .bool false, .int .i64 0, .string ⟨#[]⟩, .string ⟨#[]⟩, .string ⟨#[]⟩, .slice none 0 0] 31)).cell? ⟨w.heap.size + 1, 6, none⟩ = some (Value.slice (some ad) x.f5.length kc) := by go_simp
  have xl : Below w.heap.size w (((w.alloc (Obj.cells #[.slice A 0 c, .string p0, .string p1, .string p2, .string p3, .string p4, .string p5] 151)).alloc (Obj.cells #[.int .i64 x.f0, .bool x.f1, .int .i64 x.f2, .string x.f3, .string x.f4.f0, .string x.f4.f1, .slice (some ad) x.f5.length kc] 67)).alloc (Obj.cells #[.int .i64 0, .bool false, .int .i64 0, .string ⟨#[]⟩, .string ⟨#[]⟩, .string ⟨#[]⟩, .slice none 0 0] 31)) := by repeat (first | exact Below.refl _ _ | apply below_alloc)
  replace z0 := (xl.cell (World.block_lt_of_cell? _ _ z0)).trans z0
  replace z1 := (xl.cell (World.block_lt_of_cell? _ _ z1)).trans z1
  replace z2 := (xl.cell (World.block_lt_of_cell? _ _ z2)).trans z2
  replace z3 := (xl.cell (World.block_lt_of_cell? _ _ z3)).trans z3
  replace z4 := (xl.cell (World.block_lt_of_cell? _ _ z4)).trans z4
  replace z5 := (xl.cell (World.block_lt_of_cell? _ _ z5)).trans z5
  replace z6 := (xl.cell (World.block_lt_of_cell? _ _ z6)).trans z6
  have xb : Box (((w.alloc (Obj.cells #[.slice A 0 c, .string p0, .string p1, .string p2, .string p3, .string p4, .string p5] 151)).alloc (Obj.cells #[.int .i64 x.f0, .bool x.f1, .int .i64 x.f2, .string x.f3, .string x.f4.f0, .string x.f4.f1, .slice (some ad) x.f5.length kc] 67)).alloc (Obj.cells #[.int .i64 0, .bool false, .int .i64 0, .string ⟨#[]⟩, .string ⟨#[]⟩, .string ⟨#[]⟩, .slice none 0 0] 31)) (w.heap.size + 1 + 1) := (by repeat (first | exact blk_at _ _ _ (by simp; done) | (refine (Below.heap_alloc _ _ _ (by first | (simp; done) | (simp; omega))).trans ?_)))
  have xs : (((w.alloc (Obj.cells #[.slice A 0 c, .string p0, .string p1, .string p2, .string p3, .string p4, .string p5] 151)).alloc (Obj.cells #[.int .i64 x.f0, .bool x.f1, .int .i64 x.f2, .string x.f3, .string x.f4.f0, .string x.f4.f1, .slice (some ad) x.f5.length kc] 67)).alloc (Obj.cells #[.int .i64 0, .bool false, .int .i64 0, .string ⟨#[]⟩, .string ⟨#[]⟩, .string ⟨#[]⟩, .slice none 0 0] 31)).heap.size = w.heap.size + 1 + 1 + 1 := by simp
  have xw : (((w.alloc (Obj.cells #[.slice A 0 c, .string p0, .string p1, .string p2, .string p3, .string p4, .string p5] 151)).alloc (Obj.cells #[.int .i64 x.f0, .bool x.f1, .int .i64 x.f2, .string x.f3, .string x.f4.f0, .string x.f4.f1, .slice (some ad) x.f5.length kc] 67)).alloc (Obj.cells #[.int .i64 0, .bool false, .int .i64 0, .string ⟨#[]⟩, .string ⟨#[]⟩, .string ⟨#[]⟩, .slice none 0 0] 31)).heap[w.heap.size]? = some (.cells #[Value.slice A 0 c, Value.string p0, Value.string p1, Value.string p2, Value.string p3, Value.string p4, Value.string p5] 151 (0, 0)) := (by repeat (first | exact blk_at _ _ _ (by simp; done) | (refine (Below.heap_alloc _ _ _ (by first | (simp; done) | (simp; omega))).trans ?_)))
  have xe : (((w.alloc (Obj.cells #[.slice A 0 c, .string p0, .string p1, .string p2, .string p3, .string p4, .string p5] 151)).alloc (Obj.cells #[.int .i64 x.f0, .bool x.f1, .int .i64 x.f2, .string x.f3, .string x.f4.f0, .string x.f4.f1, .slice (some ad) x.f5.length kc] 67)).alloc (Obj.cells #[.int .i64 0, .bool false, .int .i64 0, .string ⟨#[]⟩, .string ⟨#[]⟩, .string ⟨#[]⟩, .slice none 0 0] 31)).heap[w.heap.size + 1]? = some (.cells #[Value.int .i64 x.f0, Value.bool x.f1, Value.int .i64 x.f2, Value.string x.f3, Value.string x.f4.f0, Value.string x.f4.f1, Value.slice (some ad) x.f5.length kc] 67 (0, 0)) := (by repeat (first | exact blk_at _ _ _ (by simp; done) | (refine (Below.heap_alloc _ _ _ (by first | (simp; done) | (simp; omega))).trans ?_)))
  have XW := Aside0.mk xw
  have XE := Aside0.mk xe
  clear xw xe
  generalize (((w.alloc (Obj.cells #[.slice A 0 c, .string p0, .string p1, .string p2, .string p3, .string p4, .string p5] 151)).alloc (Obj.cells #[.int .i64 x.f0, .bool x.f1, .int .i64 x.f2, .string x.f3, .string x.f4.f0, .string x.f4.f1, .slice (some ad) x.f5.length kc] 67)).alloc (Obj.cells #[.int .i64 0, .bool false, .int .i64 0, .string ⟨#[]⟩, .string ⟨#[]⟩, .string ⟨#[]⟩, .slice none 0 0] 31)) = V at g0 g1 g2 g3 g4 g5 g6 e0 e1 e2 e3 e4 e5 e6 z0 z1 z2 z3 z4 z5 z6 xb xl xs XW XE ⊢
  have y0 : V.drew.cell? ⟨w.heap.size, 0, none⟩ = some (Value.slice A 0 c) := g0
  have y1 : V.drew.cell? ⟨w.heap.size, 1, none⟩ = some (Value.string p0) := g1
  have y2 : V.drew.cell? ⟨w.heap.size, 2, none⟩ = some (Value.string p1) := g2
  have y3 : V.drew.cell? ⟨w.heap.size, 3, none⟩ = some (Value.string p2) := g3
  have y4 : V.drew.cell? ⟨w.heap.size, 4, none⟩ = some (Value.string p3) := g4
  have y5 : V.drew.cell? ⟨w.heap.size, 5, none⟩ = some (Value.string p4) := g5
  have y6 : V.drew.cell? ⟨w.heap.size, 6, none⟩ = some (Value.string p5) := g6
  have y7 : V.drew.cell? ⟨w.heap.size + 1, 0, none⟩ = some (Value.int .i64 x.f0) := e0
  have y8 : V.drew.cell? ⟨w.heap.size + 1, 1, none⟩ = some (Value.bool x.f1) := e1
  have y9 : V.drew.cell? ⟨w.heap.size + 1, 2, none⟩ = some (Value.int .i64 x.f2) := e2
  have y10 : V.drew.cell? ⟨w.heap.size + 1, 3, none⟩ = some (Value.string x.f3) := e3
  have y11 : V.drew.cell? ⟨w.heap.size + 1, 4, none⟩ = some (Value.string x.f4.f0) := e4
  have y12 : V.drew.cell? ⟨w.heap.size + 1, 5, none⟩ = some (Value.string x.f4.f1) := e5
  have y13 : V.drew.cell? ⟨w.heap.size + 1, 6, none⟩ = some (Value.slice (some ad) x.f5.length kc) := e6
  have y14 : V.drew.cell? ad = some (Value.int .i64 k0.f0) := z0
  have y15 : V.drew.cell? ⟨ad.block, ad.off + 1, none⟩ = some (Value.bool k0.f1) := z1
  have y16 : V.drew.cell? ⟨ad.block, ad.off + 2, none⟩ = some (Value.int .i64 k0.f2) := z2
  have y17 : V.drew.cell? ⟨ad.block, ad.off + 3, none⟩ = some (Value.string k0.f3) := z3
  have y18 : V.drew.cell? ⟨ad.block, ad.off + 4, none⟩ = some (Value.string k0.f4.f0) := z4
  have y19 : V.drew.cell? ⟨ad.block, ad.off + 5, none⟩ = some (Value.string k0.f4.f1) := z5
  have y20 : V.drew.cell? ⟨ad.block, ad.off + 6, none⟩ = some (Value.slice Ak0 k0.f5.length ck0) := z6
  have yb : Box V.drew (w.heap.size + 1 + 1) := xb
  have yl : Below w.heap.size w V.drew := below_drew1 xl
  have ys : V.drew.heap.size = w.heap.size + 1 + 1 + 1 := xs
  go_cut [6, 7] from 63 to 71 (fun s6 s7 wx => Got w #[Value.slice A 0 c, Value.string p0, Value.string p1, Value.string p2, Value.string p3, Value.string p4, Value.string p5] #[Value.int .i64 x.f0, Value.bool x.f1, Value.int .i64 x.f2, Value.string x.f3, Value.string x.f4.f0, Value.string x.f4.f1, Value.slice (some ad) x.f5.length kc] r0 0 s6 s7 wx)
  case first =>
    go_region_held3 (fun W => W.cell? ⟨w.heap.size, 0, none⟩ = some (Value.slice A 0 c) ∧ W.cell? ⟨w.heap.size, 1, none⟩ = some (Value.string p0) ∧ W.cell? ⟨w.heap.size, 2, none⟩ = some (Value.string p1) ∧ W.cell? ⟨w.heap.size, 3, none⟩ = some (Value.string p2) ∧ W.cell? ⟨w.heap.size, 4, none⟩ = some (Value.string p3) ∧ W.cell? ⟨w.heap.size, 5, none⟩ = some (Value.string p4) ∧ W.cell? ⟨w.heap.size, 6, none⟩ = some (Value.string p5) ∧ W.cell? ⟨w.heap.size + 1, 0, none⟩ = some (Value.int .i64 x.f0) ∧ W.cell? ⟨w.heap.size + 1, 1, none⟩ = some (Value.bool x.f1) ∧ W.cell? ⟨w.heap.size + 1, 2, none⟩ = some (Value.int .i64 x.f2) ∧ W.cell? ⟨w.heap.size + 1, 3, none⟩ = some (Value.string x.f3) ∧ W.cell? ⟨w.heap.size + 1, 4, none⟩ = some (Value.string x.f4.f0) ∧ W.cell? ⟨w.heap.size + 1, 5, none⟩ = some (Value.string x.f4.f1) ∧ W.cell? ⟨w.heap.size + 1, 6, none⟩ = some (Value.slice (some ad) x.f5.length kc) ∧ W.cell? ad = some (Value.int .i64 k0.f0) ∧ W.cell? ⟨ad.block, ad.off + 1, none⟩ = some (Value.bool k0.f1) ∧ W.cell? ⟨ad.block, ad.off + 2, none⟩ = some (Value.int .i64 k0.f2) ∧ W.cell? ⟨ad.block, ad.off + 3, none⟩ = some (Value.string k0.f3) ∧ W.cell? ⟨ad.block, ad.off + 4, none⟩ = some (Value.string k0.f4.f0) ∧ W.cell? ⟨ad.block, ad.off + 5, none⟩ = some (Value.string k0.f4.f1) ∧ W.cell? ⟨ad.block, ad.off + 6, none⟩ = some (Value.slice Ak0 k0.f5.length ck0) ∧ Box W (w.heap.size + 1 + 1) ∧ Below w.heap.size w W)
      ((first | ((try go_split_ands); refine ⟨?_, ?_, ?_, ?_, ?_, ?_, ?_, ?_, ?_, ?_, ?_, ?_, ?_, ?_, ?_, ?_, ?_, ?_, ?_, ?_, ?_, ?_, ?_⟩ <;> first | (with_reducible assumption) | (with_reducible exact cell_after7 (by with_reducible assumption) (by omega)) | (with_reducible exact cell_after7_0 (by with_reducible assumption) (by omega)) | (with_reducible exact below_after7 (by with_reducible assumption) (by omega)) | (with_reducible exact Box.after7 (by with_reducible assumption) (by omega)) | (with_reducible exact (hb.cell (World.block_lt_of_cell? _ _ (by with_reducible assumption))).trans (by with_reducible assumption)) | (with_reducible exact below_step (by with_reducible assumption) hb) | (with_reducible exact Box.mono (by with_reducible assumption) hb) | (with_reducible exact cell_alloc (by with_reducible assumption)) | (with_reducible exact cell_drew (cell_alloc (by with_reducible assumption))) | (with_reducible exact below_drew1 (below_alloc (by with_reducible assumption) _)) | (with_reducible exact Box.drew (Box.alloc (by with_reducible assumption) _)) | (with_reducible exact below_alloc (by with_reducible assumption) _) | (with_reducible exact Box.alloc (by with_reducible assumption) _) | (with_reducible exact cell_realloc (by with_reducible assumption) (by omega)) | (with_reducible exact cell_realloc0 (by with_reducible assumption) (by omega)) | (with_reducible exact Box.realloc (by with_reducible assumption) (by omega)) | (with_reducible exact below_alloc HL.out _) | (with_reducible exact below_realloc (by with_reducible assumption) (by omega)))))
      ((first | (go_at_call 97; refine (HE.out _ _ _ _ _ HLk0.out (Kd.C_below HCk0.out ?_)).mono ?_; (first | (with_reducible exact yl) | (with_reducible exact below_drew1 (below_alloc xl _)) | (with_reducible exact below_alloc yl _)); rintro e w' ⟨v6, rfl, hV, hb⟩; obtain ⟨A6, c6, rfl⟩ := Kd.V_slice hV; have HV := Aside0.mk hV; have HBB := Aside0.mk hb; have HR : Aside0 (Box w' (w.heap.size + 1 + 1)) := ⟨by first | (with_reducible exact Box.mono yb hb) | (with_reducible exact Box.mono (Box.drew (Box.alloc xb _)) hb) | (with_reducible exact Box.mono (Box.alloc yb _) hb)⟩; have HL : Aside0 (Below w.heap.size w w') := ⟨by first | (with_reducible exact below_step yl hb) | (with_reducible exact below_step (below_drew1 (below_alloc xl _)) hb) | (with_reducible exact below_step (below_alloc yl _) hb)⟩; have hsz := lt_of_heap HR.out; first | (have HQ : Box w' (w.heap.size + 1 + 1 + 1) := (hb.block _ (by simp [xs]; done)).trans (by rw [← xs]; exact blk_new _ _); have q0 := HQ.c0; have q1 := HQ.c1; have q2 := HQ.c2; have q3 := HQ.c3; have q4 := HQ.c4; have q5 := HQ.c5; have q6 := HQ.c6; have q7 := HQ.fr; have HQA := Aside0.mk HQ) | skip)))
    all_goals go_split_ands
    all_goals (go_wp2_with fail)
    all_goals go_meet
    all_goals have hvw : w'.heap[w.heap.size]? = some (.cells #[Value.slice A 0 c, Value.string p0, Value.string p1, Value.string p2, Value.string p3, Value.string p4, Value.string p5] 151 (0, 0)) := (HBB.out.block _ (by simp [xs] <;> omega)).trans (by first | (exact XW.out) | (exact (Below.heap_alloc _ _ _ (by omega)).trans XW.out))
    all_goals have hve : w'.heap[w.heap.size + 1]? = some (.cells #[Value.int .i64 x.f0, Value.bool x.f1, Value.int .i64 x.f2, Value.string x.f3, Value.string x.f4.f0, Value.string x.f4.f1, Value.slice (some ad) x.f5.length kc] 67 (0, 0)) := (HBB.out.block _ (by simp [xs] <;> omega)).trans (by first | (exact XE.out) | (exact (Below.heap_alloc _ _ _ (by omega)).trans XE.out))
    all_goals first | (exact got_alloc hvw hve (by simp [xs]) HV.out HR.out HL.out) | (exact got_store hvw hve (by omega) (by simp [xs]) HV.out HQA.out HR.out HL.out)
  case rest =>
    obtain ⟨b, A6, c6, rfl, rfl, hbb, hbx, ⟨hbl, hbF⟩, gw, ge, gb, gl⟩ := hcut
    have g0 : wc.cell? ⟨w.heap.size, 0, none⟩ = some (Value.slice A 0 c) := by unfold World.cell?; rw [gw]; rfl
    have g1 : wc.cell? ⟨w.heap.size, 1, none⟩ = some (Value.string p0) := by unfold World.cell?; rw [gw]; rfl
    have g2 : wc.cell? ⟨w.heap.size, 2, none⟩ = some (Value.string p1) := by unfold World.cell?; rw [gw]; rfl
    have g3 : wc.cell? ⟨w.heap.size, 3, none⟩ = some (Value.string p2) := by unfold World.cell?; rw [gw]; rfl
    have g4 : wc.cell? ⟨w.heap.size, 4, none⟩ = some (Value.string p3) := by unfold World.cell?; rw [gw]; rfl
    have g5 : wc.cell? ⟨w.heap.size, 5, none⟩ = some (Value.string p4) := by unfold World.cell?; rw [gw]; rfl
    have g6 : wc.cell? ⟨w.heap.size, 6, none⟩ = some (Value.string p5) := by unfold World.cell?; rw [gw]; rfl
    have e0 : wc.cell? ⟨w.heap.size + 1, 0, none⟩ = some (Value.int .i64 x.f0) := by unfold World.cell?; rw [ge]; rfl
    have e1 : wc.cell? ⟨w.heap.size + 1, 1, none⟩ = some (Value.bool x.f1) := by unfold World.cell?; rw [ge]; rfl
    have e2 : wc.cell? ⟨w.heap.size + 1, 2, none⟩ = some (Value.int .i64 x.f2) := by unfold World.cell?; rw [ge]; rfl
    have e3 : wc.cell? ⟨w.heap.size + 1, 3, none⟩ = some (Value.string x.f3) := by unfold World.cell?; rw [ge]; rfl
    have e4 : wc.cell? ⟨w.heap.size + 1, 4, none⟩ = some (Value.string x.f4.f0) := by unfold World.cell?; rw [ge]; rfl
    have e5 : wc.cell? ⟨w.heap.size + 1, 5, none⟩ = some (Value.string x.f4.f1) := by unfold World.cell?; rw [ge]; rfl
    have e6 : wc.cell? ⟨w.heap.size + 1, 6, none⟩ = some (Value.slice (some ad) x.f5.length kc) := by unfold World.cell?; rw [ge]; rfl
    have m0 : wc.cell? ⟨b, 0, none⟩ = some (Value.int .i64 r0.f0) := by unfold World.cell?; rw [hbx]; rfl
    have m1 : wc.cell? ⟨b, 1, none⟩ = some (Value.bool r0.f1) := by unfold World.cell?; rw [hbx]; rfl
    have m2 : wc.cell? ⟨b, 2, none⟩ = some (Value.int .i64 r0.f2) := by unfold World.cell?; rw [hbx]; rfl
    have m3 : wc.cell? ⟨b, 3, none⟩ = some (Value.string r0.f3) := by unfold World.cell?; rw [hbx]; rfl
    have m4 : wc.cell? ⟨b, 4, none⟩ = some (Value.string r0.f4.f0) := by unfold World.cell?; rw [hbx]; rfl
    have m5 : wc.cell? ⟨b, 5, none⟩ = some (Value.string r0.f4.f1) := by unfold World.cell?; rw [hbx]; rfl
    have m6 : wc.cell? ⟨b, 6, none⟩ = some (Value.slice A6 r0.f5.length c6) := by unfold World.cell?; rw [hbx]; rfl
    have HGB := Aside0.mk gb
    have HGL := Aside0.mk gl
    have q0 := HGB.out.c0; have q1 := HGB.out.c1; have q2 := HGB.out.c2; have q3 := HGB.out.c3; have q4 := HGB.out.c4; have q5 := HGB.out.c5; have q6 := HGB.out.c6; have q7 := HGB.out.fr
    clear gb gl
    go_wp2_with (go_at_call 138; (with_reducible refine (H1.out _ _ _ HGL.out).mono ?_); rintro e w1 ⟨v6, rfl, hV, hb⟩; obtain ⟨AR, cR, rfl⟩ := Kd.V_slice hV; have HS0 := hb.size; have HV := Aside0.mk (Kd.V_mono hV (ok' := fun k_ => w.heap.size + 3 ≤ k_) (fun k_ hk => by have := lt_of_heap HGB.out; have hk1 : wc.heap.size ≤ k_ := hk; omega)); have HB1 : Aside0 (Below w.heap.size w w1) := ⟨below_step HGL.out hb⟩; have HX1 : Aside0 (Box w1 (w.heap.size + 1 + 1)) := ⟨(hb.block _ (lt_of_heap HGB.out)).trans HGB.out⟩; have q0 := HX1.out.c0; have q1 := HX1.out.c1; have q2 := HX1.out.c2; have q3 := HX1.out.c3; have q4 := HX1.out.c4; have q5 := HX1.out.c5; have q6 := HX1.out.c6; have q7 := HX1.out.fr; clear hV hb)
    (try simp only [Exit.inBlock, Exit.then])
    have hd := HX1.out.done (.int .i64 r.f0) (.bool r.f1) (.int .i64 r.f2) (.string r.f3) (.string r.f4.f0) (.string r.f4.f1) (.slice AR r.f5.length cR)
    have hbl := HB1.out.trans (below_cells (B := w.heap.size) (w.heap.size + 1 + 1) (by omega) [.int .i64 r.f0, .bool r.f1, .int .i64 r.f2, .string r.f3, .string r.f4.f0, .string r.f4.f1, .slice AR r.f5.length cR] 0 w1)
    simp only [World.setCells] at hd hbl
    refine bodyPost_ret (results_row_tmp rfl _ _ (w.heap.size + 1 + 1) 31 _ (0, 0) _ rfl hd Try.underlying31 rfl (by kernel_rfl)) rfl ?_
    exact ⟨_, rfl, Kd.V_mono (Kd.V_step HV.out (fun k_ hk _ => heap_after7 _ _ _ _ _ _ _ (by omega))) (fun k_ hk => by omega), hbl⟩
set_option maxRecDepth 100000 in
set_option maxHeartbeats 16000000 in
theorem expr_second_err (p0 p1 p2 p3 p4 p5 : ByteArray) (x k0 k1 : S67) (h6 : 6 < x.f0) (h23 : x.f0 < 23) (hn2 : 2 ≤ x.f5.length) (hkk0 : x.f5[0]? = some k0) (hkk1 : x.f5[1]? = some k1) (r0 r1 : S31) (h : ExprOk p0 p1 p2 p3 p4 p5 k0 r0 0) (er1 : Int) (her : er1 ≠ 0) (hE1 : ExprOk p0 p1 p2 p3 p4 p5 k1 r1 er1) (A : Option Addr) (c : Nat) (B : Option Addr) (kc : Nat) (w : World) (hl : x.f5.length ≤ kc) (hC : k67.C w B x.f5.length x.f5) :
    Calls Try.prog 97 #[.agg #[.slice A 0 c, .string p0, .string p1, .string p2, .string p3, .string p4, .string p5], .agg #[.int .i64 x.f0, .bool x.f1, .int .i64 x.f2, .string x.f3, .string x.f4.f0, .string x.f4.f1, .slice B x.f5.length kc]] w (Gives w zV er1) := by
  have hn : 1 ≤ x.f5.length := by omega
  have HE := Aside0.mk h
  have HE1 := Aside0.mk hE1
  have H1N := Aside0.mk hn2
  have her1 : ((0 : Int) != 0) = false := rfl
  have hlen : ((x.f5.length : Int) == 1) = false := beq_eq_false_iff_ne.mpr (by omega)
  have her2 : (er1 != 0) = true := bne_iff_ne.mpr her
  clear her
  clear h hE1
  obtain ⟨ad, A_, c_, rfl, _, _, _, _, _, _, _, _, _⟩ := exp_at hC 0 k0 hkk0
  obtain ⟨ad1, Ak1, ck1, hadr1, u0, u1, u2, u3, u4, u5, u6, hlk1, hck1⟩ := exp_at hC 1 k1 hkk1
  injection hadr1 with hadr1
  subst hadr1
  simp only [Nat.one_mul] at u0 u1 u2 u3 u4 u5 u6
  have HLk1 := Aside0.mk hlk1
  have HCk1 := Aside0.mk hck1
  clear hlk1 hck1
  obtain ⟨ad0, Ak0, ck0, hadr0, z0, z1, z2, z3, z4, z5, z6, hlk0, hck0⟩ := exp_at hC 0 k0 hkk0
  injection hadr0 with hadr0
  subst hadr0
  have h0a : ((0 : Int) < (x.f5.length : Int)) = True := eq_true (by have := (List.getElem?_eq_some_iff.1 hkk0).1; omega)
  have h0n : 0 < x.f5.length := (List.getElem?_eq_some_iff.1 hkk0).1
  simp only [Nat.zero_mul, Addr.add_zero_] at z0 z1 z2 z3 z4 z5 z6
  have hadb0 := World.block_lt_of_cell? _ _ z0
  have hadb : ad.block < w.heap.size := hadb0
  clear hadb0
  have HADB := Aside0.mk hadb
  have HLk0 := Aside0.mk hlk0
  have HCk0 := Aside0.mk hck0
  have HCC := Aside0.mk hC
  have HN := Aside0.mk hn
  clear hlk0 hck0 hC hn
  have hop1 : decide (x.f0 < 6) = false := decide_eq_false (by omega)
  have hop2 : (x.f0 == 6) = false := beq_eq_false_iff_ne.mpr (by omega)
  have hk0 : ((x.f5.length : Int) == 0) = false := beq_eq_false_iff_ne.mpr (by omega)
  have h23b : decide (23 ≤ x.f0) = false := decide_eq_false (by omega)
  have h25b : (x.f0 == 25) = false := beq_eq_false_iff_ne.mpr (by omega)
  have HOP := Aside0.mk (And.intro h6 h23)
  clear h6 h23
  go_enter Try.func97, Try.ntmps97
  go_wp2_with fail
  have g0 : (((w.alloc (Obj.cells #[.slice A 0 c, .string p0, .string p1, .string p2, .string p3, .string p4, .string p5] 151)).alloc (Obj.cells #[.int .i64 x.f0, .bool x.f1, .int .i64 x.f2, .string x.f3, .string x.f4.f0, .string x.f4.f1, .slice (some ad) x.f5.length kc] 67)).alloc (Obj.cells #[.int .i64 0, .bool false, .int .i64 0, .string ⟨#[]⟩, .string ⟨#[]⟩, .string ⟨#[]⟩, .slice none 0 0] 31)).cell? ⟨w.heap.size, 0, none⟩ = some (Value.slice A 0 c) := by go_simp
  have g1 : (((w.alloc (Obj.cells #[.slice A 0 c, .string p0, .string p1, .string p2, .string p3, .string p4, .string p5] 151)).alloc (Obj.cells #[.int .i64 x.f0, .bool x.f1, .int .i64 x.f2, .string x.f3, .string x.f4.f0, .string x.f4.f1, .slice (some ad) x.f5.length kc] 67)).alloc (Obj.cells #[.int .i64 0, .bool false, .int .i64 0, .string ⟨#[]⟩, .string ⟨#[]⟩, .string ⟨#[]⟩, .slice none 0 0] 31)).cell? ⟨w.heap.size, 1, none⟩ = some (Value.string p0) := by go_simp
  have g2 : (((w.alloc (Obj.cells #[.slice A 0 c, .string p0, .string p1, .string p2, .string p3, .string p4, .string p5] 151)).alloc (Obj.cells #[.int .i64 x.f0, .bool x.f1, .int .i64 x.f2, .string x.f3, .string x.f4.f0, .string x.f4.f1, .slice (some ad) x.f5.length kc] 67)).alloc (Obj.cells #[.int .i64 0, .bool false, .int .i64 0, .string ⟨#[]⟩, .string ⟨#[]⟩, .string ⟨#[]⟩, .slice none 0 0] 31)).cell? ⟨w.heap.size, 2, none⟩ = some (Value.string p1) := by go_simp
  have g3 : (((w.alloc (Obj.cells #[.slice A 0 c, .string p0, .string p1, .string p2, .string p3, .string p4, .string p5] 151)).alloc (Obj.cells #[.int .i64 x.f0, .bool x.f1, .int .i64 x.f2, .string x.f3, .string x.f4.f0, .string x.f4.f1, .slice (some ad) x.f5.length kc] 67)).alloc (Obj.cells #[.int .i64 0, .bool false, .int .i64 0, .string ⟨#[]⟩, .string ⟨#[]⟩, .string ⟨#[]⟩, .slice none 0 0] 31)).cell? ⟨w.heap.size, 3, none⟩ = some (Value.string p2) := by go_simp
  have g4 : (((w.alloc (Obj.cells #[.slice A 0 c, .string p0, .string p1, .string p2, .string p3, .string p4, .string p5] 151)).alloc (Obj.cells #[.int .i64 x.f0, .bool x.f1, .int .i64 x.f2, .string x.f3, .string x.f4.f0, .string x.f4.f1, .slice (some ad) x.f5.length kc] 67)).alloc (Obj.cells #[.int .i64 0, .bool false, .int .i64 0, .string ⟨#[]⟩, .string ⟨#[]⟩, .string ⟨#[]⟩, .slice none 0 0] 31)).cell? ⟨w.heap.size, 4, none⟩ = some (Value.string p3) := by go_simp
  have g5 : (((w.alloc (Obj.cells #[.slice A 0 c, .string p0, .string p1, .string p2, .string p3, .string p4, .string p5] 151)).alloc (Obj.cells #[.int .i64 x.f0, .bool x.f1, .int .i64 x.f2, .string x.f3, .string x.f4.f0, .string x.f4.f1, .slice (some ad) x.f5.length kc] 67)).alloc (Obj.cells #[.int .i64 0, .bool false, .int .i64 0, .string ⟨#[]⟩, .string ⟨#[]⟩, .string ⟨#[]⟩, .slice none 0 0] 31)).cell? ⟨w.heap.size, 5, none⟩ = some (Value.string p4) := by go_simp
  have g6 : (((w.alloc (Obj.cells #[.slice A 0 c, .string p0, .string p1, .string p2, .string p3, .string p4, .string p5] 151)).alloc (Obj.cells #[.int .i64 x.f0, .bool x.f1, .int .i64 x.f2, .string x.f3, .string x.f4.f0, .string x.f4.f1, .slice (some ad) x.f5.length kc] 67)).alloc (Obj.cells #[.int .i64 0, .bool false, .int .i64 0, .string ⟨#[]⟩, .string ⟨#[]⟩, .string ⟨#[]⟩, .slice none 0 0] 31)).cell? ⟨w.heap.size, 6, none⟩ = some (Value.string p5) := by go_simp
  have e0 : (((w.alloc (Obj.cells #[.slice A 0 c, .string p0, .string p1, .string p2, .string p3, .string p4, .string p5] 151)).alloc (Obj.cells #[.int .i64 x.f0, .bool x.f1, .int .i64 x.f2, .string x.f3, .string x.f4.f0, .string x.f4.f1, .slice (some ad) x.f5.length kc] 67)).alloc (Obj.cells #[.int .i64 0, .bool false, .int .i64 0, .string ⟨#[]⟩, .string ⟨#[]⟩, .string ⟨#[]⟩, .slice none 0 0] 31)).cell? ⟨w.heap.size + 1, 0, none⟩ = some (Value.int .i64 x.f0) := by go_simp
  have e1 : (((w.alloc (Obj.cells #[.slice A 0 c, .string p0, .string p1, .string p2, .string p3, .string p4, .string p5] 151)).alloc (Obj.cells #[.int .i64 x.f0, .bool x.f1, .int .i64 x.f2, .string x.f3, .string x.f4.f0, .string x.f4.f1, .slice (some ad) x.f5.length kc] 67)).alloc (Obj.cells #[.int .i64 0, .bool false, .int .i64 0, .string ⟨#[]⟩, .string ⟨#[]⟩, .string ⟨#[]⟩, .slice none 0 0] 31)).cell? ⟨w.heap.size + 1, 1, none⟩ = some (Value.bool x.f1) := by go_simp
  have e2 : (((w.alloc (Obj.cells #[.slice A 0 c, .string p0, .string p1, .string p2, .string p3, .string p4, .string p5] 151)).alloc (Obj.cells #[.int .i64 x.f0, .bool x.f1, .int .i64 x.f2, .string x.f3, .string x.f4.f0, .string x.f4.f1, .slice (some ad) x.f5.length kc] 67)).alloc (Obj.cells #[.int .i64 0, .bool false, .int .i64 0, .string ⟨#[]⟩, .string ⟨#[]⟩, .string ⟨#[]⟩, .slice none 0 0] 31)).cell? ⟨w.heap.size + 1, 2, none⟩ = some (Value.int .i64 x.f2) := by go_simp
  have e3 : (((w.alloc (Obj.cells #[.slice A 0 c, .string p0, .string p1, .string p2, .string p3, .string p4, .string p5] 151)).alloc (Obj.cells #[.int .i64 x.f0, .bool x.f1, .int .i64 x.f2, .string x.f3, .string x.f4.f0, .string x.f4.f1, .slice (some ad) x.f5.length kc] 67)).alloc (Obj.cells #[.int .i64 0, .bool false, .int .i64 0, .string ⟨#[]⟩, .string ⟨#[]⟩, .string ⟨#[]⟩, .slice none 0 0] 31)).cell? ⟨w.heap.size + 1, 3, none⟩ = some (Value.string x.f3) := by go_simp
  have e4 : (((w.alloc (Obj.cells #[.slice A 0 c, .string p0, .string p1, .string p2, .string p3, .string p4, .string p5] 151)).alloc (Obj.cells #[.int .i64 x.f0, .bool x.f1, .int .i64 x.f2, .string x.f3, .string x.f4.f0, .string x.f4.f1, .slice (some ad) x.f5.length kc] 67)).alloc (Obj.cells #[.int .i64 0, .bool false, .int .i64 0, .string ⟨#[]⟩, .string ⟨#[]⟩, .string ⟨#[]⟩, .slice none 0 0] 31)).cell? ⟨w.heap.size + 1, 4, none⟩ = some (Value.string x.f4.f0) := by go_simp
  have e5 : (((w.alloc (Obj.cells #[.slice A 0 c, .string p0, .string p1, .string p2, .string p3, .string p4, .string p5] 151)).alloc (Obj.cells #[.int .i64 x.f0, .bool x.f1, .int .i64 x.f2, .string x.f3, .string x.f4.f0, .string x.f4.f1, .slice (some ad) x.f5.length kc] 67)).alloc (Obj.cells #[.int .i64 0, .bool false, .int .i64 0, .string ⟨#[]⟩, .string ⟨#[]⟩, .string ⟨#[]⟩, .slice none 0 0] 31)).cell? ⟨w.heap.size + 1, 5, none⟩ = some (Value.string x.f4.f1) := by go_simp
  have e6 : (((w.alloc (Obj.cells #[.slice A 0 c, .string p0, .string p1, .string p2, .string p3, .string p4, .string p5] 151)).alloc (Obj.cells #[.int .i64 x.f0, .bool x.f1, .int .i64 x.f2, .string x.f3, .string x.f4.f0, .string x.f4.f1, .slice (some ad) x.f5.length kc] 67)).alloc (Obj.cells #[.int .i64 0, .bool false, .int .i64 0, .string ⟨#[]⟩, .string ⟨#[]⟩, .string ⟨#[]⟩, .slice none 0 0] 31)).cell? ⟨w.heap.size + 1, 6, none⟩ = some (Value.slice (some ad) x.f5.length kc) := by go_simp
  have xl : Below w.heap.size w (((w.alloc (Obj.cells #[.slice A 0 c, .string p0, .string p1, .string p2, .string p3, .string p4, .string p5] 151)).alloc (Obj.cells #[.int .i64 x.f0, .bool x.f1, .int .i64 x.f2, .string x.f3, .string x.f4.f0, .string x.f4.f1, .slice (some ad) x.f5.length kc] 67)).alloc (Obj.cells #[.int .i64 0, .bool false, .int .i64 0, .string ⟨#[]⟩, .string ⟨#[]⟩, .string ⟨#[]⟩, .slice none 0 0] 31)) := by repeat (first | exact Below.refl _ _ | apply below_alloc)
  replace z0 := (xl.cell (World.block_lt_of_cell? _ _ z0)).trans z0
  replace z1 := (xl.cell (World.block_lt_of_cell? _ _ z1)).trans z1
  replace z2 := (xl.cell (World.block_lt_of_cell? _ _ z2)).trans z2
  replace z3 := (xl.cell (World.block_lt_of_cell? _ _ z3)).trans z3
  replace z4 := (xl.cell (World.block_lt_of_cell? _ _ z4)).trans z4
  replace z5 := (xl.cell (World.block_lt_of_cell? _ _ z5)).trans z5
  replace z6 := (xl.cell (World.block_lt_of_cell? _ _ z6)).trans z6
  have xb : Box (((w.alloc (Obj.cells #[.slice A 0 c, .string p0, .string p1, .string p2, .string p3, .string p4, .string p5] 151)).alloc (Obj.cells #[.int .i64 x.f0, .bool x.f1, .int .i64 x.f2, .string x.f3, .string x.f4.f0, .string x.f4.f1, .slice (some ad) x.f5.length kc] 67)).alloc (Obj.cells #[.int .i64 0, .bool false, .int .i64 0, .string ⟨#[]⟩, .string ⟨#[]⟩, .string ⟨#[]⟩, .slice none 0 0] 31)) (w.heap.size + 1 + 1) := (by repeat (first | exact blk_at _ _ _ (by simp; done) | (refine (Below.heap_alloc _ _ _ (by first | (simp; done) | (simp; omega))).trans ?_)))
  have xs : (((w.alloc (Obj.cells #[.slice A 0 c, .string p0, .string p1, .string p2, .string p3, .string p4, .string p5] 151)).alloc (Obj.cells #[.int .i64 x.f0, .bool x.f1, .int .i64 x.f2, .string x.f3, .string x.f4.f0, .string x.f4.f1, .slice (some ad) x.f5.length kc] 67)).alloc (Obj.cells #[.int .i64 0, .bool false, .int .i64 0, .string ⟨#[]⟩, .string ⟨#[]⟩, .string ⟨#[]⟩, .slice none 0 0] 31)).heap.size = w.heap.size + 1 + 1 + 1 := by simp
  have xw : (((w.alloc (Obj.cells #[.slice A 0 c, .string p0, .string p1, .string p2, .string p3, .string p4, .string p5] 151)).alloc (Obj.cells #[.int .i64 x.f0, .bool x.f1, .int .i64 x.f2, .string x.f3, .string x.f4.f0, .string x.f4.f1, .slice (some ad) x.f5.length kc] 67)).alloc (Obj.cells #[.int .i64 0, .bool false, .int .i64 0, .string ⟨#[]⟩, .string ⟨#[]⟩, .string ⟨#[]⟩, .slice none 0 0] 31)).heap[w.heap.size]? = some (.cells #[Value.slice A 0 c, Value.string p0, Value.string p1, Value.string p2, Value.string p3, Value.string p4, Value.string p5] 151 (0, 0)) := (by repeat (first | exact blk_at _ _ _ (by simp; done) | (refine (Below.heap_alloc _ _ _ (by first | (simp; done) | (simp; omega))).trans ?_)))
  have xe : (((w.alloc (Obj.cells #[.slice A 0 c, .string p0, .string p1, .string p2, .string p3, .string p4, .string p5] 151)).alloc (Obj.cells #[.int .i64 x.f0, .bool x.f1, .int .i64 x.f2, .string x.f3, .string x.f4.f0, .string x.f4.f1, .slice (some ad) x.f5.length kc] 67)).alloc (Obj.cells #[.int .i64 0, .bool false, .int .i64 0, .string ⟨#[]⟩, .string ⟨#[]⟩, .string ⟨#[]⟩, .slice none 0 0] 31)).heap[w.heap.size + 1]? = some (.cells #[Value.int .i64 x.f0, Value.bool x.f1, Value.int .i64 x.f2, Value.string x.f3, Value.string x.f4.f0, Value.string x.f4.f1, Value.slice (some ad) x.f5.length kc] 67 (0, 0)) := (by repeat (first | exact blk_at _ _ _ (by simp; done) | (refine (Below.heap_alloc _ _ _ (by first | (simp; done) | (simp; omega))).trans ?_)))
  have XW := Aside0.mk xw
  have XE := Aside0.mk xe
  clear xw xe
  generalize (((w.alloc (Obj.cells #[.slice A 0 c, .string p0, .string p1, .string p2, .string p3, .string p4, .string p5] 151)).alloc (Obj.cells #[.int .i64 x.f0, .bool x.f1, .int .i64 x.f2, .string x.f3, .string x.f4.f0, .string x.f4.f1, .slice (some ad) x.f5.length kc] 67)).alloc (Obj.cells #[.int .i64 0, .bool false, .int .i64 0, .string ⟨#[]⟩, .string ⟨#[]⟩, .string ⟨#[]⟩, .slice none 0 0] 31)) = V at g0 g1 g2 g3 g4 g5 g6 e0 e1 e2 e3 e4 e5 e6 z0 z1 z2 z3 z4 z5 z6 xb xl xs XW XE ⊢
  have y0 : V.drew.cell? ⟨w.heap.size, 0, none⟩ = some (Value.slice A 0 c) := g0
  have y1 : V.drew.cell? ⟨w.heap.size, 1, none⟩ = some (Value.string p0) := g1
  have y2 : V.drew.cell? ⟨w.heap.size, 2, none⟩ = some (Value.string p1) := g2
  have y3 : V.drew.cell? ⟨w.heap.size, 3, none⟩ = some (Value.string p2) := g3
  have y4 : V.drew.cell? ⟨w.heap.size, 4, none⟩ = some (Value.string p3) := g4
  have y5 : V.drew.cell? ⟨w.heap.size, 5, none⟩ = some (Value.string p4) := g5
  have y6 : V.drew.cell? ⟨w.heap.size, 6, none⟩ = some (Value.string p5) := g6
  have y7 : V.drew.cell? ⟨w.heap.size + 1, 0, none⟩ = some (Value.int .i64 x.f0) := e0
  have y8 : V.drew.cell? ⟨w.heap.size + 1, 1, none⟩ = some (Value.bool x.f1) := e1
  have y9 : V.drew.cell? ⟨w.heap.size + 1, 2, none⟩ = some (Value.int .i64 x.f2) := e2
  have y10 : V.drew.cell? ⟨w.heap.size + 1, 3, none⟩ = some (Value.string x.f3) := e3
  have y11 : V.drew.cell? ⟨w.heap.size + 1, 4, none⟩ = some (Value.string x.f4.f0) := e4
  have y12 : V.drew.cell? ⟨w.heap.size + 1, 5, none⟩ = some (Value.string x.f4.f1) := e5
  have y13 : V.drew.cell? ⟨w.heap.size + 1, 6, none⟩ = some (Value.slice (some ad) x.f5.length kc) := e6
  have y14 : V.drew.cell? ad = some (Value.int .i64 k0.f0) := z0
  have y15 : V.drew.cell? ⟨ad.block, ad.off + 1, none⟩ = some (Value.bool k0.f1) := z1
  have y16 : V.drew.cell? ⟨ad.block, ad.off + 2, none⟩ = some (Value.int .i64 k0.f2) := z2
  have y17 : V.drew.cell? ⟨ad.block, ad.off + 3, none⟩ = some (Value.string k0.f3) := z3
  have y18 : V.drew.cell? ⟨ad.block, ad.off + 4, none⟩ = some (Value.string k0.f4.f0) := z4
  have y19 : V.drew.cell? ⟨ad.block, ad.off + 5, none⟩ = some (Value.string k0.f4.f1) := z5
  have y20 : V.drew.cell? ⟨ad.block, ad.off + 6, none⟩ = some (Value.slice Ak0 k0.f5.length ck0) := z6
  have yb : Box V.drew (w.heap.size + 1 + 1) := xb
  have yl : Below w.heap.size w V.drew := below_drew1 xl
  have ys : V.drew.heap.size = w.heap.size + 1 + 1 + 1 := xs
  go_cut [6, 7] from 63 to 71 (fun s6 s7 wx => Got w #[Value.slice A 0 c, Value.string p0, Value.string p1, Value.string p2, Value.string p3, Value.string p4, Value.string p5] #[Value.int .i64 x.f0, Value.bool x.f1, Value.int .i64 x.f2, Value.string x.f3, Value.string x.f4.f0, Value.string x.f4.f1, Value.slice (some ad) x.f5.length kc] r0 0 s6 s7 wx)
  case first =>
    go_region_held3 (fun W => W.cell? ⟨w.heap.size, 0, none⟩ = some (Value.slice A 0 c) ∧ W.cell? ⟨w.heap.size, 1, none⟩ = some (Value.string p0) ∧ W.cell? ⟨w.heap.size, 2, none⟩ = some (Value.string p1) ∧ W.cell? ⟨w.heap.size, 3, none⟩ = some (Value.string p2) ∧ W.cell? ⟨w.heap.size, 4, none⟩ = some (Value.string p3) ∧ W.cell? ⟨w.heap.size, 5, none⟩ = some (Value.string p4) ∧ W.cell? ⟨w.heap.size, 6, none⟩ = some (Value.string p5) ∧ W.cell? ⟨w.heap.size + 1, 0, none⟩ = some (Value.int .i64 x.f0) ∧ W.cell? ⟨w.heap.size + 1, 1, none⟩ = some (Value.bool x.f1) ∧ W.cell? ⟨w.heap.size + 1, 2, none⟩ = some (Value.int .i64 x.f2) ∧ W.cell? ⟨w.heap.size + 1, 3, none⟩ = some (Value.string x.f3) ∧ W.cell? ⟨w.heap.size + 1, 4, none⟩ = some (Value.string x.f4.f0) ∧ W.cell? ⟨w.heap.size + 1, 5, none⟩ = some (Value.string x.f4.f1) ∧ W.cell? ⟨w.heap.size + 1, 6, none⟩ = some (Value.slice (some ad) x.f5.length kc) ∧ W.cell? ad = some (Value.int .i64 k0.f0) ∧ W.cell? ⟨ad.block, ad.off + 1, none⟩ = some (Value.bool k0.f1) ∧ W.cell? ⟨ad.block, ad.off + 2, none⟩ = some (Value.int .i64 k0.f2) ∧ W.cell? ⟨ad.block, ad.off + 3, none⟩ = some (Value.string k0.f3) ∧ W.cell? ⟨ad.block, ad.off + 4, none⟩ = some (Value.string k0.f4.f0) ∧ W.cell? ⟨ad.block, ad.off + 5, none⟩ = some (Value.string k0.f4.f1) ∧ W.cell? ⟨ad.block, ad.off + 6, none⟩ = some (Value.slice Ak0 k0.f5.length ck0) ∧ Box W (w.heap.size + 1 + 1) ∧ Below w.heap.size w W)
      ((first | ((try go_split_ands); refine ⟨?_, ?_, ?_, ?_, ?_, ?_, ?_, ?_, ?_, ?_, ?_, ?_, ?_, ?_, ?_, ?_, ?_, ?_, ?_, ?_, ?_, ?_, ?_⟩ <;> first | (with_reducible assumption) | (with_reducible exact cell_after7 (by with_reducible assumption) (by omega)) | (with_reducible exact cell_after7_0 (by with_reducible assumption) (by omega)) | (with_reducible exact below_after7 (by with_reducible assumption) (by omega)) | (with_reducible exact Box.after7 (by with_reducible assumption) (by omega)) | (with_reducible exact (hb.cell (World.block_lt_of_cell? _ _ (by with_reducible assumption))).trans (by with_reducible assumption)) | (with_reducible exact below_step (by with_reducible assumption) hb) | (with_reducible exact Box.mono (by with_reducible assumption) hb) | (with_reducible exact cell_alloc (by with_reducible assumption)) | (with_reducible exact cell_drew (cell_alloc (by with_reducible assumption))) | (with_reducible exact below_drew1 (below_alloc (by with_reducible assumption) _)) | (with_reducible exact Box.drew (Box.alloc (by with_reducible assumption) _)) | (with_reducible exact below_alloc (by with_reducible assumption) _) | (with_reducible exact Box.alloc (by with_reducible assumption) _) | (with_reducible exact cell_realloc (by with_reducible assumption) (by omega)) | (with_reducible exact cell_realloc0 (by with_reducible assumption) (by omega)) | (with_reducible exact Box.realloc (by with_reducible assumption) (by omega)) | (with_reducible exact below_alloc HL.out _) | (with_reducible exact below_realloc (by with_reducible assumption) (by omega)))))
      ((first | (go_at_call 97; refine (HE.out _ _ _ _ _ HLk0.out (Kd.C_below HCk0.out ?_)).mono ?_; (first | (with_reducible exact yl) | (with_reducible exact below_drew1 (below_alloc xl _)) | (with_reducible exact below_alloc yl _)); rintro e w' ⟨v6, rfl, hV, hb⟩; obtain ⟨A6, c6, rfl⟩ := Kd.V_slice hV; have HV := Aside0.mk hV; have HBB := Aside0.mk hb; have HR : Aside0 (Box w' (w.heap.size + 1 + 1)) := ⟨by first | (with_reducible exact Box.mono yb hb) | (with_reducible exact Box.mono (Box.drew (Box.alloc xb _)) hb) | (with_reducible exact Box.mono (Box.alloc yb _) hb)⟩; have HL : Aside0 (Below w.heap.size w w') := ⟨by first | (with_reducible exact below_step yl hb) | (with_reducible exact below_step (below_drew1 (below_alloc xl _)) hb) | (with_reducible exact below_step (below_alloc yl _) hb)⟩; have hsz := lt_of_heap HR.out; first | (have HQ : Box w' (w.heap.size + 1 + 1 + 1) := (hb.block _ (by simp [xs]; done)).trans (by rw [← xs]; exact blk_new _ _); have q0 := HQ.c0; have q1 := HQ.c1; have q2 := HQ.c2; have q3 := HQ.c3; have q4 := HQ.c4; have q5 := HQ.c5; have q6 := HQ.c6; have q7 := HQ.fr; have HQA := Aside0.mk HQ) | skip)))
    all_goals go_split_ands
    all_goals (go_wp2_with fail)
    all_goals go_meet
    all_goals have hvw : w'.heap[w.heap.size]? = some (.cells #[Value.slice A 0 c, Value.string p0, Value.string p1, Value.string p2, Value.string p3, Value.string p4, Value.string p5] 151 (0, 0)) := (HBB.out.block _ (by simp [xs] <;> omega)).trans (by first | (exact XW.out) | (exact (Below.heap_alloc _ _ _ (by omega)).trans XW.out))
    all_goals have hve : w'.heap[w.heap.size + 1]? = some (.cells #[Value.int .i64 x.f0, Value.bool x.f1, Value.int .i64 x.f2, Value.string x.f3, Value.string x.f4.f0, Value.string x.f4.f1, Value.slice (some ad) x.f5.length kc] 67 (0, 0)) := (HBB.out.block _ (by simp [xs] <;> omega)).trans (by first | (exact XE.out) | (exact (Below.heap_alloc _ _ _ (by omega)).trans XE.out))
    all_goals first | (exact got_alloc hvw hve (by simp [xs]) HV.out HR.out HL.out) | (exact got_store hvw hve (by omega) (by simp [xs]) HV.out HQA.out HR.out HL.out)
  case rest =>
    obtain ⟨b, A6, c6, rfl, rfl, hbb, hbx, ⟨hbl, hbF⟩, gw, ge, gb, gl⟩ := hcut
    clear y0 y1 y2 y3 y4 y5 y6 y7 y8 y9 y10 y11 y12 y13 y14 y15 y16 y17 y18 y19 y20 g0 g1 g2 g3 g4 g5 g6 e0 e1 e2 e3 e4 e5 e6 z0 z1 z2 z3 z4 z5 z6 yb yl ys xb xl xs XW XE
    have g0 : wc.cell? ⟨w.heap.size, 0, none⟩ = some (Value.slice A 0 c) := by unfold World.cell?; rw [gw]; rfl
    have g1 : wc.cell? ⟨w.heap.size, 1, none⟩ = some (Value.string p0) := by unfold World.cell?; rw [gw]; rfl
    have g2 : wc.cell? ⟨w.heap.size, 2, none⟩ = some (Value.string p1) := by unfold World.cell?; rw [gw]; rfl
    have g3 : wc.cell? ⟨w.heap.size, 3, none⟩ = some (Value.string p2) := by unfold World.cell?; rw [gw]; rfl
    have g4 : wc.cell? ⟨w.heap.size, 4, none⟩ = some (Value.string p3) := by unfold World.cell?; rw [gw]; rfl
    have g5 : wc.cell? ⟨w.heap.size, 5, none⟩ = some (Value.string p4) := by unfold World.cell?; rw [gw]; rfl
    have g6 : wc.cell? ⟨w.heap.size, 6, none⟩ = some (Value.string p5) := by unfold World.cell?; rw [gw]; rfl
    have e0 : wc.cell? ⟨w.heap.size + 1, 0, none⟩ = some (Value.int .i64 x.f0) := by unfold World.cell?; rw [ge]; rfl
    have e1 : wc.cell? ⟨w.heap.size + 1, 1, none⟩ = some (Value.bool x.f1) := by unfold World.cell?; rw [ge]; rfl
    have e2 : wc.cell? ⟨w.heap.size + 1, 2, none⟩ = some (Value.int .i64 x.f2) := by unfold World.cell?; rw [ge]; rfl
    have e3 : wc.cell? ⟨w.heap.size + 1, 3, none⟩ = some (Value.string x.f3) := by unfold World.cell?; rw [ge]; rfl
    have e4 : wc.cell? ⟨w.heap.size + 1, 4, none⟩ = some (Value.string x.f4.f0) := by unfold World.cell?; rw [ge]; rfl
    have e5 : wc.cell? ⟨w.heap.size + 1, 5, none⟩ = some (Value.string x.f4.f1) := by unfold World.cell?; rw [ge]; rfl
    have e6 : wc.cell? ⟨w.heap.size + 1, 6, none⟩ = some (Value.slice (some ad) x.f5.length kc) := by unfold World.cell?; rw [ge]; rfl
    have m0 : wc.cell? ⟨b, 0, none⟩ = some (Value.int .i64 r0.f0) := by unfold World.cell?; rw [hbx]; rfl
    have m1 : wc.cell? ⟨b, 1, none⟩ = some (Value.bool r0.f1) := by unfold World.cell?; rw [hbx]; rfl
    have m2 : wc.cell? ⟨b, 2, none⟩ = some (Value.int .i64 r0.f2) := by unfold World.cell?; rw [hbx]; rfl
    have m3 : wc.cell? ⟨b, 3, none⟩ = some (Value.string r0.f3) := by unfold World.cell?; rw [hbx]; rfl
    have m4 : wc.cell? ⟨b, 4, none⟩ = some (Value.string r0.f4.f0) := by unfold World.cell?; rw [hbx]; rfl
    have m5 : wc.cell? ⟨b, 5, none⟩ = some (Value.string r0.f4.f1) := by unfold World.cell?; rw [hbx]; rfl
    have m6 : wc.cell? ⟨b, 6, none⟩ = some (Value.slice A6 r0.f5.length c6) := by unfold World.cell?; rw [hbx]; rfl
    have s1l : Below w.heap.size w wc := gl
    replace u0 : wc.cell? ⟨ad.block, ad.off + 7, none⟩ = some (Value.int .i64 k1.f0) := (s1l.cell (World.block_lt_of_cell? _ _ u0)).trans u0
    replace u1 : wc.cell? ⟨ad.block, ad.off + 7 + 1, none⟩ = some (Value.bool k1.f1) := (s1l.cell (World.block_lt_of_cell? _ _ u1)).trans u1
    replace u2 : wc.cell? ⟨ad.block, ad.off + 7 + 2, none⟩ = some (Value.int .i64 k1.f2) := (s1l.cell (World.block_lt_of_cell? _ _ u2)).trans u2
    replace u3 : wc.cell? ⟨ad.block, ad.off + 7 + 3, none⟩ = some (Value.string k1.f3) := (s1l.cell (World.block_lt_of_cell? _ _ u3)).trans u3
    replace u4 : wc.cell? ⟨ad.block, ad.off + 7 + 4, none⟩ = some (Value.string k1.f4.f0) := (s1l.cell (World.block_lt_of_cell? _ _ u4)).trans u4
    replace u5 : wc.cell? ⟨ad.block, ad.off + 7 + 5, none⟩ = some (Value.string k1.f4.f1) := (s1l.cell (World.block_lt_of_cell? _ _ u5)).trans u5
    replace u6 : wc.cell? ⟨ad.block, ad.off + 7 + 6, none⟩ = some (Value.slice Ak1 k1.f5.length ck1) := (s1l.cell (World.block_lt_of_cell? _ _ u6)).trans u6
    have h1a : ((1 : Int) < (x.f5.length : Int)) = True := eq_true (by have := H1N.out; omega)
    have h1n : 1 < x.f5.length := H1N.out
    have hbn := lt_of_heap hbx
    have hbn2 := lt_of_heap gb
    have hadb : ad.block < w.heap.size := HADB.out
    have XW2 := Aside0.mk gw
    have XE2 := Aside0.mk ge
    have XB2 := Aside0.mk hbx
    have HGL := Aside0.mk gl
    have HGB := Aside0.mk gb
    have HF0 := Aside0.mk hbF
    have HL0 := Aside0.mk hbl
    clear gw ge hbx hbF hbl
    have v0 : wc.drew.cell? ⟨w.heap.size, 0, none⟩ = some (Value.slice A 0 c) := g0
    have v1 : wc.drew.cell? ⟨w.heap.size, 1, none⟩ = some (Value.string p0) := g1
    have v2 : wc.drew.cell? ⟨w.heap.size, 2, none⟩ = some (Value.string p1) := g2
    have v3 : wc.drew.cell? ⟨w.heap.size, 3, none⟩ = some (Value.string p2) := g3
    have v4 : wc.drew.cell? ⟨w.heap.size, 4, none⟩ = some (Value.string p3) := g4
    have v5 : wc.drew.cell? ⟨w.heap.size, 5, none⟩ = some (Value.string p4) := g5
    have v6 : wc.drew.cell? ⟨w.heap.size, 6, none⟩ = some (Value.string p5) := g6
    have v7 : wc.drew.cell? ⟨w.heap.size + 1, 0, none⟩ = some (Value.int .i64 x.f0) := e0
    have v8 : wc.drew.cell? ⟨w.heap.size + 1, 1, none⟩ = some (Value.bool x.f1) := e1
    have v9 : wc.drew.cell? ⟨w.heap.size + 1, 2, none⟩ = some (Value.int .i64 x.f2) := e2
    have v10 : wc.drew.cell? ⟨w.heap.size + 1, 3, none⟩ = some (Value.string x.f3) := e3
    have v11 : wc.drew.cell? ⟨w.heap.size + 1, 4, none⟩ = some (Value.string x.f4.f0) := e4
    have v12 : wc.drew.cell? ⟨w.heap.size + 1, 5, none⟩ = some (Value.string x.f4.f1) := e5
    have v13 : wc.drew.cell? ⟨w.heap.size + 1, 6, none⟩ = some (Value.slice (some ad) x.f5.length kc) := e6
    have v14 : wc.drew.cell? ⟨b, 0, none⟩ = some (Value.int .i64 r0.f0) := m0
    have v15 : wc.drew.cell? ⟨b, 1, none⟩ = some (Value.bool r0.f1) := m1
    have v16 : wc.drew.cell? ⟨b, 2, none⟩ = some (Value.int .i64 r0.f2) := m2
    have v17 : wc.drew.cell? ⟨b, 3, none⟩ = some (Value.string r0.f3) := m3
    have v18 : wc.drew.cell? ⟨b, 4, none⟩ = some (Value.string r0.f4.f0) := m4
    have v19 : wc.drew.cell? ⟨b, 5, none⟩ = some (Value.string r0.f4.f1) := m5
    have v20 : wc.drew.cell? ⟨b, 6, none⟩ = some (Value.slice A6 r0.f5.length c6) := m6
    have v21 : wc.drew.cell? ⟨ad.block, ad.off + 7, none⟩ = some (Value.int .i64 k1.f0) := u0
    have v22 : wc.drew.cell? ⟨ad.block, ad.off + 7 + 1, none⟩ = some (Value.bool k1.f1) := u1
    have v23 : wc.drew.cell? ⟨ad.block, ad.off + 7 + 2, none⟩ = some (Value.int .i64 k1.f2) := u2
    have v24 : wc.drew.cell? ⟨ad.block, ad.off + 7 + 3, none⟩ = some (Value.string k1.f3) := u3
    have v25 : wc.drew.cell? ⟨ad.block, ad.off + 7 + 4, none⟩ = some (Value.string k1.f4.f0) := u4
    have v26 : wc.drew.cell? ⟨ad.block, ad.off + 7 + 5, none⟩ = some (Value.string k1.f4.f1) := u5
    have v27 : wc.drew.cell? ⟨ad.block, ad.off + 7 + 6, none⟩ = some (Value.slice Ak1 k1.f5.length ck1) := u6
    have yb2 : Box wc.drew (w.heap.size + 1 + 1) := gb
    have yl2 : Below w.heap.size w wc.drew := below_drew1 gl
    go_wp2_with fail
    go_cut [7, 8] from 86 to 94 (fun s7 s8 wx => Got w #[Value.slice A 0 c, Value.string p0, Value.string p1, Value.string p2, Value.string p3, Value.string p4, Value.string p5] #[Value.int .i64 x.f0, Value.bool x.f1, Value.int .i64 x.f2, Value.string x.f3, Value.string x.f4.f0, Value.string x.f4.f1, Value.slice (some ad) x.f5.length kc] r1 er1 s8 s7 wx ∧ wx.heap[b]? = some (.cells #[Value.int .i64 r0.f0, Value.bool r0.f1, Value.int .i64 r0.f2, Value.string r0.f3, Value.string r0.f4.f0, Value.string r0.f4.f1, Value.slice A6 r0.f5.length c6] 31 (0, 0)) ∧ Kd.F k31 wx (fun k_ => w.heap.size + 3 ≤ k_ ∧ k_ < wc.heap.size) A6 r0.f5.length r0.f5)
    case first =>
      go_region_held3 (fun W => W.cell? ⟨w.heap.size, 0, none⟩ = some (Value.slice A 0 c) ∧ W.cell? ⟨w.heap.size, 1, none⟩ = some (Value.string p0) ∧ W.cell? ⟨w.heap.size, 2, none⟩ = some (Value.string p1) ∧ W.cell? ⟨w.heap.size, 3, none⟩ = some (Value.string p2) ∧ W.cell? ⟨w.heap.size, 4, none⟩ = some (Value.string p3) ∧ W.cell? ⟨w.heap.size, 5, none⟩ = some (Value.string p4) ∧ W.cell? ⟨w.heap.size, 6, none⟩ = some (Value.string p5) ∧ W.cell? ⟨w.heap.size + 1, 0, none⟩ = some (Value.int .i64 x.f0) ∧ W.cell? ⟨w.heap.size + 1, 1, none⟩ = some (Value.bool x.f1) ∧ W.cell? ⟨w.heap.size + 1, 2, none⟩ = some (Value.int .i64 x.f2) ∧ W.cell? ⟨w.heap.size + 1, 3, none⟩ = some (Value.string x.f3) ∧ W.cell? ⟨w.heap.size + 1, 4, none⟩ = some (Value.string x.f4.f0) ∧ W.cell? ⟨w.heap.size + 1, 5, none⟩ = some (Value.string x.f4.f1) ∧ W.cell? ⟨w.heap.size + 1, 6, none⟩ = some (Value.slice (some ad) x.f5.length kc) ∧ W.cell? ⟨b, 0, none⟩ = some (Value.int .i64 r0.f0) ∧ W.cell? ⟨b, 1, none⟩ = some (Value.bool r0.f1) ∧ W.cell? ⟨b, 2, none⟩ = some (Value.int .i64 r0.f2) ∧ W.cell? ⟨b, 3, none⟩ = some (Value.string r0.f3) ∧ W.cell? ⟨b, 4, none⟩ = some (Value.string r0.f4.f0) ∧ W.cell? ⟨b, 5, none⟩ = some (Value.string r0.f4.f1) ∧ W.cell? ⟨b, 6, none⟩ = some (Value.slice A6 r0.f5.length c6) ∧ W.cell? ⟨ad.block, ad.off + 7, none⟩ = some (Value.int .i64 k1.f0) ∧ W.cell? ⟨ad.block, ad.off + 7 + 1, none⟩ = some (Value.bool k1.f1) ∧ W.cell? ⟨ad.block, ad.off + 7 + 2, none⟩ = some (Value.int .i64 k1.f2) ∧ W.cell? ⟨ad.block, ad.off + 7 + 3, none⟩ = some (Value.string k1.f3) ∧ W.cell? ⟨ad.block, ad.off + 7 + 4, none⟩ = some (Value.string k1.f4.f0) ∧ W.cell? ⟨ad.block, ad.off + 7 + 5, none⟩ = some (Value.string k1.f4.f1) ∧ W.cell? ⟨ad.block, ad.off + 7 + 6, none⟩ = some (Value.slice Ak1 k1.f5.length ck1) ∧ Box W (w.heap.size + 1 + 1) ∧ Below w.heap.size w W)
        ((first | ((try go_split_ands); refine ⟨?_, ?_, ?_, ?_, ?_, ?_, ?_, ?_, ?_, ?_, ?_, ?_, ?_, ?_, ?_, ?_, ?_, ?_, ?_, ?_, ?_, ?_, ?_, ?_, ?_, ?_, ?_, ?_, ?_, ?_⟩ <;> first | (with_reducible assumption) | (with_reducible exact cell_after7 (by with_reducible assumption) (by omega)) | (with_reducible exact cell_after7_0 (by with_reducible assumption) (by omega)) | (with_reducible exact below_after7 (by with_reducible assumption) (by omega)) | (with_reducible exact Box.after7 (by with_reducible assumption) (by omega)) | (with_reducible exact (hb.cell (World.block_lt_of_cell? _ _ (by with_reducible assumption))).trans (by with_reducible assumption)) | (with_reducible exact below_step (by with_reducible assumption) hb) | (with_reducible exact Box.mono (by with_reducible assumption) hb) | (with_reducible exact cell_alloc (by with_reducible assumption)) | (with_reducible exact cell_drew (cell_alloc (by with_reducible assumption))) | (with_reducible exact below_drew1 (below_alloc (by with_reducible assumption) _)) | (with_reducible exact Box.drew (Box.alloc (by with_reducible assumption) _)) | (with_reducible exact below_alloc (by with_reducible assumption) _) | (with_reducible exact Box.alloc (by with_reducible assumption) _) | (with_reducible exact cell_realloc (by with_reducible assumption) (by omega)) | (with_reducible exact cell_realloc0 (by with_reducible assumption) (by omega)) | (with_reducible exact Box.realloc (by with_reducible assumption) (by omega)) | (with_reducible exact below_alloc HL.out _) | (with_reducible exact below_realloc (by with_reducible assumption) (by omega)))))
        ((first | (go_at_call 97; refine (HE1.out _ _ _ _ _ HLk1.out (Kd.C_below HCk1.out ?_)).mono ?_; (first | (with_reducible exact yl2) | (with_reducible exact below_drew1 (below_alloc gl _)) | (with_reducible exact below_alloc yl2 _)); rintro e w' ⟨v6, rfl, hV, hb⟩; obtain ⟨A8, c8, rfl⟩ := Kd.V_slice hV; have HV := Aside0.mk hV; have HBB := Aside0.mk hb; have HR : Aside0 (Box w' (w.heap.size + 1 + 1)) := ⟨by first | (with_reducible exact Box.mono yb2 hb) | (with_reducible exact Box.mono (Box.drew (Box.alloc gb _)) hb) | (with_reducible exact Box.mono (Box.alloc yb2 _) hb)⟩; have HL : Aside0 (Below w.heap.size w w') := ⟨by first | (with_reducible exact below_step yl2 hb) | (with_reducible exact below_step (below_drew1 (below_alloc gl _)) hb) | (with_reducible exact below_step (below_alloc yl2 _) hb)⟩; have hsz := lt_of_heap HR.out; have hszb : wc.heap.size ≤ w'.heap.size := Nat.le_trans (by first | exact Nat.le_refl _ | (simp; done)) hb.size; first | (have HQ : Box w' wc.heap.size := (hb.block _ (by simp; done)).trans (blk_new _ _); have q0 := HQ.c0; have q1 := HQ.c1; have q2 := HQ.c2; have q3 := HQ.c3; have q4 := HQ.c4; have q5 := HQ.c5; have q6 := HQ.c6; have q7 := HQ.fr; have HQA := Aside0.mk HQ) | skip)))
      all_goals go_split_ands
      all_goals (go_wp2_with fail)
      all_goals go_meet
      all_goals have hw1 := lt_of_heap XW2.out
      all_goals have hw2 := lt_of_heap XE2.out
      all_goals have hvw : w'.heap[w.heap.size]? = some (.cells #[Value.slice A 0 c, Value.string p0, Value.string p1, Value.string p2, Value.string p3, Value.string p4, Value.string p5] 151 (0, 0)) := (HBB.out.block _ (by simp <;> omega)).trans (by first | (exact XW2.out) | (exact (Below.heap_alloc _ _ _ (by omega)).trans XW2.out))
      all_goals have hve : w'.heap[w.heap.size + 1]? = some (.cells #[Value.int .i64 x.f0, Value.bool x.f1, Value.int .i64 x.f2, Value.string x.f3, Value.string x.f4.f0, Value.string x.f4.f1, Value.slice (some ad) x.f5.length kc] 67 (0, 0)) := (HBB.out.block _ (by simp <;> omega)).trans (by first | (exact XE2.out) | (exact (Below.heap_alloc _ _ _ (by omega)).trans XE2.out))
      all_goals have hvb : w'.heap[b]? = some (.cells #[Value.int .i64 r0.f0, Value.bool r0.f1, Value.int .i64 r0.f2, Value.string r0.f3, Value.string r0.f4.f0, Value.string r0.f4.f1, Value.slice A6 r0.f5.length c6] 31 (0, 0)) := (HBB.out.block _ (by simp <;> omega)).trans (by first | (exact XB2.out) | (exact (Below.heap_alloc _ _ _ (by omega)).trans XB2.out))
      all_goals have hf0 : Kd.F k31 w' (fun k_ => w.heap.size + 3 ≤ k_ ∧ k_ < wc.heap.size) A6 r0.f5.length r0.f5 := Kd.F_step (Kd.F_bound HF0.out) (fun k hk _ => (HBB.out.block k (by have := hk.2; first | exact this | (simp; omega))).trans (by first | (exact Below.heap_alloc _ _ _ hk.2) | rfl))
      all_goals first | (with_reducible refine ⟨got_alloc hvw hve ?_ HV.out HR.out HL.out, ?_, Kd.F_alloc hf0 _⟩; (simp <;> omega); exact (Below.heap_alloc _ _ _ (by omega)).trans hvb) | (refine ⟨got_store hvw hve (by omega) (N := wc.heap.size + 1) (Nat.le_refl _) (Kd.V_mono HV.out (fun k_ hk => by simp at hk; omega)) HQA.out HR.out HL.out, ?_, ?_⟩; exact (heap_after7 _ _ _ _ _ _ _ (by omega)).trans hvb; exact Kd.F_step hf0 (fun k hk _ => heap_after7 _ _ _ _ _ _ _ (by have := hk.2; omega)))
    case rest =>
      obtain ⟨⟨b2, A8, c8, rfl, rfl, hbb2, hbx2, ⟨hbl2, hbF2⟩, gw2, ge2, gb2, gl2⟩, hbx1, hbF1⟩ := hcut
      have HGB2 := Aside0.mk gb2
      have HGL2 := Aside0.mk gl2
      have q0 := HGB2.out.c0; have q1 := HGB2.out.c1; have q2 := HGB2.out.c2; have q3 := HGB2.out.c3; have q4 := HGB2.out.c4; have q5 := HGB2.out.c5; have q6 := HGB2.out.c6; have q7 := HGB2.out.fr
      clear gb2 gl2
      go_wp2_with fail
      (try simp only [Exit.inBlock, Exit.then])
      have hd := HGB2.out.done (.int .i64 0) (.bool false) (.int .i64 0) (.string ⟨#[]⟩) (.string ⟨#[]⟩) (.string ⟨#[]⟩) (.slice none 0 0)
      have hbl := HGL2.out.trans (below_cells (B := w.heap.size) (w.heap.size + 1 + 1) (by omega) [.int .i64 0, .bool false, .int .i64 0, .string ⟨#[]⟩, .string ⟨#[]⟩, .string ⟨#[]⟩, .slice none 0 0] 0 _)
      simp only [World.setCells] at hd hbl
      refine bodyPost_ret (results_row_tmp rfl _ _ (w.heap.size + 1 + 1) 31 _ (0, 0) _ rfl hd Try.underlying31 rfl (by kernel_rfl)) rfl ?_
      exact ⟨_, rfl, Kd.V_nil _ _ _ _ _, hbl⟩
set_option maxRecDepth 100000 in
set_option maxHeartbeats 16000000 in
theorem expr_two (p0 p1 p2 p3 p4 p5 : ByteArray) (x k0 k1 : S67) (h6 : 6 < x.f0) (h23 : x.f0 < 23) (hn2 : 2 ≤ x.f5.length) (hkk0 : x.f5[0]? = some k0) (hkk1 : x.f5[1]? = some k1) (r0 r1 : S31) (h : ExprOk p0 p1 p2 p3 p4 p5 k0 r0 0) (hE1 : ExprOk p0 p1 p2 p3 p4 p5 k1 r1 0) (A : Option Addr) (c : Nat) (B : Option Addr) (kc : Nat) (w : World) (hl : x.f5.length ≤ kc) (hC : k67.C w B x.f5.length x.f5)(r : S31) (er : Int) (h2 : ∀ (A6 A8 : Option Addr) (c6 c8 : Nat) (W : World), Below w.heap.size w W → r0.f5.length ≤ c6 → k31.C W A6 r0.f5.length r0.f5 → r1.f5.length ≤ c8 → k31.C W A8 r1.f5.length r1.f5 → Calls Try.prog 139 #[.agg #[.slice A 0 c, .string p0, .string p1, .string p2, .string p3, .string p4, .string p5], .int .i64 x.f0, .agg #[.int .i64 r0.f0, .bool r0.f1, .int .i64 r0.f2, .string r0.f3, .string r0.f4.f0, .string r0.f4.f1, .slice A6 r0.f5.length c6], .agg #[.int .i64 r1.f0, .bool r1.f1, .int .i64 r1.f2, .string r1.f3, .string r1.f4.f0, .string r1.f4.f1, .slice A8 r1.f5.length c8]] W (Gives W r er)) :
    Calls Try.prog 97 #[.agg #[.slice A 0 c, .string p0, .string p1, .string p2, .string p3, .string p4, .string p5], .agg #[.int .i64 x.f0, .bool x.f1, .int .i64 x.f2, .string x.f3, .string x.f4.f0, .string x.f4.f1, .slice B x.f5.length kc]] w (Gives w r er) := by
  have hn : 1 ≤ x.f5.length := by omega
  have HE := Aside0.mk h
  have HE1 := Aside0.mk hE1
  have H1N := Aside0.mk hn2
  have her1 : ((0 : Int) != 0) = false := rfl
  have hlen : ((x.f5.length : Int) == 1) = false := beq_eq_false_iff_ne.mpr (by omega)
  have H2 := Aside0.mk h2
  clear h2
  clear h hE1
  obtain ⟨ad, A_, c_, rfl, _, _, _, _, _, _, _, _, _⟩ := exp_at hC 0 k0 hkk0
  obtain ⟨ad1, Ak1, ck1, hadr1, u0, u1, u2, u3, u4, u5, u6, hlk1, hck1⟩ := exp_at hC 1 k1 hkk1
  injection hadr1 with hadr1
  subst hadr1
  simp only [Nat.one_mul] at u0 u1 u2 u3 u4 u5 u6
  have HLk1 := Aside0.mk hlk1
  have HCk1 := Aside0.mk hck1
  clear hlk1 hck1
  obtain ⟨ad0, Ak0, ck0, hadr0, z0, z1, z2, z3, z4, z5, z6, hlk0, hck0⟩ := exp_at hC 0 k0 hkk0
  injection hadr0 with hadr0
  subst hadr0
  have h0a : ((0 : Int) < (x.f5.length : Int)) = True := eq_true (by have := (List.getElem?_eq_some_iff.1 hkk0).1; omega)
  have h0n : 0 < x.f5.length := (List.getElem?_eq_some_iff.1 hkk0).1
  simp only [Nat.zero_mul, Addr.add_zero_] at z0 z1 z2 z3 z4 z5 z6
  have hadb0 := World.block_lt_of_cell? _ _ z0
  have hadb : ad.block < w.heap.size := hadb0
  clear hadb0
  have HADB := Aside0.mk hadb
  have HLk0 := Aside0.mk hlk0
  have HCk0 := Aside0.mk hck0
  have HCC := Aside0.mk hC
  have HN := Aside0.mk hn
  clear hlk0 hck0 hC hn
  have hop1 : decide (x.f0 < 6) = false := decide_eq_false (by omega)
  have hop2 : (x.f0 == 6) = false := beq_eq_false_iff_ne.mpr (by omega)
  have hk0 : ((x.f5.length : Int) == 0) = false := beq_eq_false_iff_ne.mpr (by omega)
  have h23b : decide (23 ≤ x.f0) = false := decide_eq_false (by omega)
  have h25b : (x.f0 == 25) = false := beq_eq_false_iff_ne.mpr (by omega)
  have HOP := Aside0.mk (And.intro h6 h23)
  clear h6 h23
  go_enter Try.func97, Try.ntmps97
  go_wp2_with fail
  have g0 : (((w.alloc (Obj.cells #[.slice A 0 c, .string p0, .string p1, .string p2, .string p3, .string p4, .string p5] 151)).alloc (Obj.cells #[.int .i64 x.f0, .bool x.f1, .int .i64 x.f2, .string x.f3, .string x.f4.f0, .string x.f4.f1, .slice (some ad) x.f5.length kc] 67)).alloc (Obj.cells #[.int .i64 0, .bool false, .int .i64 0, .string ⟨#[]⟩, .string ⟨#[]⟩, .string ⟨#[]⟩, .slice none 0 0] 31)).cell? ⟨w.heap.size, 0, none⟩ = some (Value.slice A 0 c) := by go_simp
  have g1 : (((w.alloc (Obj.cells #[.slice A 0 c, .string p0, .string p1, .string p2, .string p3, .string p4, .string p5] 151)).alloc (Obj.cells #[.int .i64 x.f0, .bool x.f1, .int .i64 x.f2, .string x.f3, .string x.f4.f0, .string x.f4.f1, .slice (some ad) x.f5.length kc] 67)).alloc (Obj.cells #[.int .i64 0, .bool false, .int .i64 0, .string ⟨#[]⟩, .string ⟨#[]⟩, .string ⟨#[]⟩, .slice none 0 0] 31)).cell? ⟨w.heap.size, 1, none⟩ = some (Value.string p0) := by go_simp
  have g2 : (((w.alloc (Obj.cells #[.slice A 0 c, .string p0, .string p1, .string p2, .string p3, .string p4, .string p5] 151)).alloc (Obj.cells #[.int .i64 x.f0, .bool x.f1, .int .i64 x.f2, .string x.f3, .string x.f4.f0, .string x.f4.f1, .slice (some ad) x.f5.length kc] 67)).alloc (Obj.cells #[.int .i64 0, .bool false, .int .i64 0, .string ⟨#[]⟩, .string ⟨#[]⟩, .string ⟨#[]⟩, .slice none 0 0] 31)).cell? ⟨w.heap.size, 2, none⟩ = some (Value.string p1) := by go_simp
  have g3 : (((w.alloc (Obj.cells #[.slice A 0 c, .string p0, .string p1, .string p2, .string p3, .string p4, .string p5] 151)).alloc (Obj.cells #[.int .i64 x.f0, .bool x.f1, .int .i64 x.f2, .string x.f3, .string x.f4.f0, .string x.f4.f1, .slice (some ad) x.f5.length kc] 67)).alloc (Obj.cells #[.int .i64 0, .bool false, .int .i64 0, .string ⟨#[]⟩, .string ⟨#[]⟩, .string ⟨#[]⟩, .slice none 0 0] 31)).cell? ⟨w.heap.size, 3, none⟩ = some (Value.string p2) := by go_simp
  have g4 : (((w.alloc (Obj.cells #[.slice A 0 c, .string p0, .string p1, .string p2, .string p3, .string p4, .string p5] 151)).alloc (Obj.cells #[.int .i64 x.f0, .bool x.f1, .int .i64 x.f2, .string x.f3, .string x.f4.f0, .string x.f4.f1, .slice (some ad) x.f5.length kc] 67)).alloc (Obj.cells #[.int .i64 0, .bool false, .int .i64 0, .string ⟨#[]⟩, .string ⟨#[]⟩, .string ⟨#[]⟩, .slice none 0 0] 31)).cell? ⟨w.heap.size, 4, none⟩ = some (Value.string p3) := by go_simp
  have g5 : (((w.alloc (Obj.cells #[.slice A 0 c, .string p0, .string p1, .string p2, .string p3, .string p4, .string p5] 151)).alloc (Obj.cells #[.int .i64 x.f0, .bool x.f1, .int .i64 x.f2, .string x.f3, .string x.f4.f0, .string x.f4.f1, .slice (some ad) x.f5.length kc] 67)).alloc (Obj.cells #[.int .i64 0, .bool false, .int .i64 0, .string ⟨#[]⟩, .string ⟨#[]⟩, .string ⟨#[]⟩, .slice none 0 0] 31)).cell? ⟨w.heap.size, 5, none⟩ = some (Value.string p4) := by go_simp
  have g6 : (((w.alloc (Obj.cells #[.slice A 0 c, .string p0, .string p1, .string p2, .string p3, .string p4, .string p5] 151)).alloc (Obj.cells #[.int .i64 x.f0, .bool x.f1, .int .i64 x.f2, .string x.f3, .string x.f4.f0, .string x.f4.f1, .slice (some ad) x.f5.length kc] 67)).alloc (Obj.cells #[.int .i64 0, .bool false, .int .i64 0, .string ⟨#[]⟩, .string ⟨#[]⟩, .string ⟨#[]⟩, .slice none 0 0] 31)).cell? ⟨w.heap.size, 6, none⟩ = some (Value.string p5) := by go_simp
  have e0 : (((w.alloc (Obj.cells #[.slice A 0 c, .string p0, .string p1, .string p2, .string p3, .string p4, .string p5] 151)).alloc (Obj.cells #[.int .i64 x.f0, .bool x.f1, .int .i64 x.f2, .string x.f3, .string x.f4.f0, .string x.f4.f1, .slice (some ad) x.f5.length kc] 67)).alloc (Obj.cells #[.int .i64 0, .bool false, .int .i64 0, .string ⟨#[]⟩, .string ⟨#[]⟩, .string ⟨#[]⟩, .slice none 0 0] 31)).cell? ⟨w.heap.size + 1, 0, none⟩ = some (Value.int .i64 x.f0) := by go_simp
  have e1 : (((w.alloc (Obj.cells #[.slice A 0 c, .string p0, .string p1, .string p2, .string p3, .string p4, .string p5] 151)).alloc (Obj.cells #[.int .i64 x.f0, .bool x.f1, .int .i64 x.f2, .string x.f3, .string x.f4.f0, .string x.f4.f1, .slice (some ad) x.f5.length kc] 67)).alloc (Obj.cells #[.int .i64 0, .bool false, .int .i64 0, .string ⟨#[]⟩, .string ⟨#[]⟩, .string ⟨#[]⟩, .slice none 0 0] 31)).cell? ⟨w.heap.size + 1, 1, none⟩ = some (Value.bool x.f1) := by go_simp
  have e2 : (((w.alloc (Obj.cells #[.slice A 0 c, .string p0, .string p1, .string p2, .string p3, .string p4, .string p5] 151)).alloc (Obj.cells #[.int .i64 x.f0, .bool x.f1, .int .i64 x.f2, .string x.f3, .string x.f4.f0, .string x.f4.f1, .slice (some ad) x.f5.length kc] 67)).alloc (Obj.cells #[.int .i64 0, .bool false, .int .i64 0, .string ⟨#[]⟩, .string ⟨#[]⟩, .string ⟨#[]⟩, .slice none 0 0] 31)).cell? ⟨w.heap.size + 1, 2, none⟩ = some (Value.int .i64 x.f2) := by go_simp
  have e3 : (((w.alloc (Obj.cells #[.slice A 0 c, .string p0, .string p1, .string p2, .string p3, .string p4, .string p5] 151)).alloc (Obj.cells #[.int .i64 x.f0, .bool x.f1, .int .i64 x.f2, .string x.f3, .string x.f4.f0, .string x.f4.f1, .slice (some ad) x.f5.length kc] 67)).alloc (Obj.cells #[.int .i64 0, .bool false, .int .i64 0, .string ⟨#[]⟩, .string ⟨#[]⟩, .string ⟨#[]⟩, .slice none 0 0] 31)).cell? ⟨w.heap.size + 1, 3, none⟩ = some (Value.string x.f3) := by go_simp
  have e4 : (((w.alloc (Obj.cells #[.slice A 0 c, .string p0, .string p1, .string p2, .string p3, .string p4, .string p5] 151)).alloc (Obj.cells #[.int .i64 x.f0, .bool x.f1, .int .i64 x.f2, .string x.f3, .string x.f4.f0, .string x.f4.f1, .slice (some ad) x.f5.length kc] 67)).alloc (Obj.cells #[.int .i64 0, .bool false, .int .i64 0, .string ⟨#[]⟩, .string ⟨#[]⟩, .string ⟨#[]⟩, .slice none 0 0] 31)).cell? ⟨w.heap.size + 1, 4, none⟩ = some (Value.string x.f4.f0) := by go_simp
  have e5 : (((w.alloc (Obj.cells #[.slice A 0 c, .string p0, .string p1, .string p2, .string p3, .string p4, .string p5] 151)).alloc (Obj.cells #[.int .i64 x.f0, .bool x.f1, .int .i64 x.f2, .string x.f3, .string x.f4.f0, .string x.f4.f1, .slice (some ad) x.f5.length kc] 67)).alloc (Obj.cells #[.int .i64 0, .bool false, .int .i64 0, .string ⟨#[]⟩, .string ⟨#[]⟩, .string ⟨#[]⟩, .slice none 0 0] 31)).cell? ⟨w.heap.size + 1, 5, none⟩ = some (Value.string x.f4.f1) := by go_simp
  have e6 : (((w.alloc (Obj.cells #[.slice A 0 c, .string p0, .string p1, .string p2, .string p3, .string p4, .string p5] 151)).alloc (Obj.cells #[.int .i64 x.f0, .bool x.f1, .int .i64 x.f2, .string x.f3, .string x.f4.f0, .string x.f4.f1, .slice (some ad) x.f5.length kc] 67)).alloc (Obj.cells #[.int .i64 0, .bool false, .int .i64 0, .string ⟨#[]⟩, .string ⟨#[]⟩, .string ⟨#[]⟩, .slice none 0 0] 31)).cell? ⟨w.heap.size + 1, 6, none⟩ = some (Value.slice (some ad) x.f5.length kc) := by go_simp
  have xl : Below w.heap.size w (((w.alloc (Obj.cells #[.slice A 0 c, .string p0, .string p1, .string p2, .string p3, .string p4, .string p5] 151)).alloc (Obj.cells #[.int .i64 x.f0, .bool x.f1, .int .i64 x.f2, .string x.f3, .string x.f4.f0, .string x.f4.f1, .slice (some ad) x.f5.length kc] 67)).alloc (Obj.cells #[.int .i64 0, .bool false, .int .i64 0, .string ⟨#[]⟩, .string ⟨#[]⟩, .string ⟨#[]⟩, .slice none 0 0] 31)) := by repeat (first | exact Below.refl _ _ | apply below_alloc)
  replace z0 := (xl.cell (World.block_lt_of_cell? _ _ z0)).trans z0
  replace z1 := (xl.cell (World.block_lt_of_cell? _ _ z1)).trans z1
  replace z2 := (xl.cell (World.block_lt_of_cell? _ _ z2)).trans z2
  replace z3 := (xl.cell (World.block_lt_of_cell? _ _ z3)).trans z3
  replace z4 := (xl.cell (World.block_lt_of_cell? _ _ z4)).trans z4
  replace z5 := (xl.cell (World.block_lt_of_cell? _ _ z5)).trans z5
  replace z6 := (xl.cell (World.block_lt_of_cell? _ _ z6)).trans z6
  have xb : Box (((w.alloc (Obj.cells #[.slice A 0 c, .string p0, .string p1, .string p2, .string p3, .string p4, .string p5] 151)).alloc (Obj.cells #[.int .i64 x.f0, .bool x.f1, .int .i64 x.f2, .string x.f3, .string x.f4.f0, .string x.f4.f1, .slice (some ad) x.f5.length kc] 67)).alloc (Obj.cells #[.int .i64 0, .bool false, .int .i64 0, .string ⟨#[]⟩, .string ⟨#[]⟩, .string ⟨#[]⟩, .slice none 0 0] 31)) (w.heap.size + 1 + 1) := (by repeat (first | exact blk_at _ _ _ (by simp; done) | (refine (Below.heap_alloc _ _ _ (by first | (simp; done) | (simp; omega))).trans ?_)))
  have xs : (((w.alloc (Obj.cells #[.slice A 0 c, .string p0, .string p1, .string p2, .string p3, .string p4, .string p5] 151)).alloc (Obj.cells #[.int .i64 x.f0, .bool x.f1, .int .i64 x.f2, .string x.f3, .string x.f4.f0, .string x.f4.f1, .slice (some ad) x.f5.length kc] 67)).alloc (Obj.cells #[.int .i64 0, .bool false, .int .i64 0, .string ⟨#[]⟩, .string ⟨#[]⟩, .string ⟨#[]⟩, .slice none 0 0] 31)).heap.size = w.heap.size + 1 + 1 + 1 := by simp
  have xw : (((w.alloc (Obj.cells #[.slice A 0 c, .string p0, .string p1, .string p2, .string p3, .string p4, .string p5] 151)).alloc (Obj.cells #[.int .i64 x.f0, .bool x.f1, .int .i64 x.f2, .string x.f3, .string x.f4.f0, .string x.f4.f1, .slice (some ad) x.f5.length kc] 67)).alloc (Obj.cells #[.int .i64 0, .bool false, .int .i64 0, .string ⟨#[]⟩, .string ⟨#[]⟩, .string ⟨#[]⟩, .slice none 0 0] 31)).heap[w.heap.size]? = some (.cells #[Value.slice A 0 c, Value.string p0, Value.string p1, Value.string p2, Value.string p3, Value.string p4, Value.string p5] 151 (0, 0)) := (by repeat (first | exact blk_at _ _ _ (by simp; done) | (refine (Below.heap_alloc _ _ _ (by first | (simp; done) | (simp; omega))).trans ?_)))
  have xe : (((w.alloc (Obj.cells #[.slice A 0 c, .string p0, .string p1, .string p2, .string p3, .string p4, .string p5] 151)).alloc (Obj.cells #[.int .i64 x.f0, .bool x.f1, .int .i64 x.f2, .string x.f3, .string x.f4.f0, .string x.f4.f1, .slice (some ad) x.f5.length kc] 67)).alloc (Obj.cells #[.int .i64 0, .bool false, .int .i64 0, .string ⟨#[]⟩, .string ⟨#[]⟩, .string ⟨#[]⟩, .slice none 0 0] 31)).heap[w.heap.size + 1]? = some (.cells #[Value.int .i64 x.f0, Value.bool x.f1, Value.int .i64 x.f2, Value.string x.f3, Value.string x.f4.f0, Value.string x.f4.f1, Value.slice (some ad) x.f5.length kc] 67 (0, 0)) := (by repeat (first | exact blk_at _ _ _ (by simp; done) | (refine (Below.heap_alloc _ _ _ (by first | (simp; done) | (simp; omega))).trans ?_)))
  have XW := Aside0.mk xw
  have XE := Aside0.mk xe
  clear xw xe
  generalize (((w.alloc (Obj.cells #[.slice A 0 c, .string p0, .string p1, .string p2, .string p3, .string p4, .string p5] 151)).alloc (Obj.cells #[.int .i64 x.f0, .bool x.f1, .int .i64 x.f2, .string x.f3, .string x.f4.f0, .string x.f4.f1, .slice (some ad) x.f5.length kc] 67)).alloc (Obj.cells #[.int .i64 0, .bool false, .int .i64 0, .string ⟨#[]⟩, .string ⟨#[]⟩, .string ⟨#[]⟩, .slice none 0 0] 31)) = V at g0 g1 g2 g3 g4 g5 g6 e0 e1 e2 e3 e4 e5 e6 z0 z1 z2 z3 z4 z5 z6 xb xl xs XW XE ⊢
  have y0 : V.drew.cell? ⟨w.heap.size, 0, none⟩ = some (Value.slice A 0 c) := g0
  have y1 : V.drew.cell? ⟨w.heap.size, 1, none⟩ = some (Value.string p0) := g1
  have y2 : V.drew.cell? ⟨w.heap.size, 2, none⟩ = some (Value.string p1) := g2
  have y3 : V.drew.cell? ⟨w.heap.size, 3, none⟩ = some (Value.string p2) := g3
  have y4 : V.drew.cell? ⟨w.heap.size, 4, none⟩ = some (Value.string p3) := g4
  have y5 : V.drew.cell? ⟨w.heap.size, 5, none⟩ = some (Value.string p4) := g5
  have y6 : V.drew.cell? ⟨w.heap.size, 6, none⟩ = some (Value.string p5) := g6
  have y7 : V.drew.cell? ⟨w.heap.size + 1, 0, none⟩ = some (Value.int .i64 x.f0) := e0
  have y8 : V.drew.cell? ⟨w.heap.size + 1, 1, none⟩ = some (Value.bool x.f1) := e1
  have y9 : V.drew.cell? ⟨w.heap.size + 1, 2, none⟩ = some (Value.int .i64 x.f2) := e2
  have y10 : V.drew.cell? ⟨w.heap.size + 1, 3, none⟩ = some (Value.string x.f3) := e3
  have y11 : V.drew.cell? ⟨w.heap.size + 1, 4, none⟩ = some (Value.string x.f4.f0) := e4
  have y12 : V.drew.cell? ⟨w.heap.size + 1, 5, none⟩ = some (Value.string x.f4.f1) := e5
  have y13 : V.drew.cell? ⟨w.heap.size + 1, 6, none⟩ = some (Value.slice (some ad) x.f5.length kc) := e6
  have y14 : V.drew.cell? ad = some (Value.int .i64 k0.f0) := z0
  have y15 : V.drew.cell? ⟨ad.block, ad.off + 1, none⟩ = some (Value.bool k0.f1) := z1
  have y16 : V.drew.cell? ⟨ad.block, ad.off + 2, none⟩ = some (Value.int .i64 k0.f2) := z2
  have y17 : V.drew.cell? ⟨ad.block, ad.off + 3, none⟩ = some (Value.string k0.f3) := z3
  have y18 : V.drew.cell? ⟨ad.block, ad.off + 4, none⟩ = some (Value.string k0.f4.f0) := z4
  have y19 : V.drew.cell? ⟨ad.block, ad.off + 5, none⟩ = some (Value.string k0.f4.f1) := z5
  have y20 : V.drew.cell? ⟨ad.block, ad.off + 6, none⟩ = some (Value.slice Ak0 k0.f5.length ck0) := z6
  have yb : Box V.drew (w.heap.size + 1 + 1) := xb
  have yl : Below w.heap.size w V.drew := below_drew1 xl
  have ys : V.drew.heap.size = w.heap.size + 1 + 1 + 1 := xs
  go_cut [6, 7] from 63 to 71 (fun s6 s7 wx => Got w #[Value.slice A 0 c, Value.string p0, Value.string p1, Value.string p2, Value.string p3, Value.string p4, Value.string p5] #[Value.int .i64 x.f0, Value.bool x.f1, Value.int .i64 x.f2, Value.string x.f3, Value.string x.f4.f0, Value.string x.f4.f1, Value.slice (some ad) x.f5.length kc] r0 0 s6 s7 wx)
  case first =>
    go_region_held3 (fun W => W.cell? ⟨w.heap.size, 0, none⟩ = some (Value.slice A 0 c) ∧ W.cell? ⟨w.heap.size, 1, none⟩ = some (Value.string p0) ∧ W.cell? ⟨w.heap.size, 2, none⟩ = some (Value.string p1) ∧ W.cell? ⟨w.heap.size, 3, none⟩ = some (Value.string p2) ∧ W.cell? ⟨w.heap.size, 4, none⟩ = some (Value.string p3) ∧ W.cell? ⟨w.heap.size, 5, none⟩ = some (Value.string p4) ∧ W.cell? ⟨w.heap.size, 6, none⟩ = some (Value.string p5) ∧ W.cell? ⟨w.heap.size + 1, 0, none⟩ = some (Value.int .i64 x.f0) ∧ W.cell? ⟨w.heap.size + 1, 1, none⟩ = some (Value.bool x.f1) ∧ W.cell? ⟨w.heap.size + 1, 2, none⟩ = some (Value.int .i64 x.f2) ∧ W.cell? ⟨w.heap.size + 1, 3, none⟩ = some (Value.string x.f3) ∧ W.cell? ⟨w.heap.size + 1, 4, none⟩ = some (Value.string x.f4.f0) ∧ W.cell? ⟨w.heap.size + 1, 5, none⟩ = some (Value.string x.f4.f1) ∧ W.cell? ⟨w.heap.size + 1, 6, none⟩ = some (Value.slice (some ad) x.f5.length kc) ∧ W.cell? ad = some (Value.int .i64 k0.f0) ∧ W.cell? ⟨ad.block, ad.off + 1, none⟩ = some (Value.bool k0.f1) ∧ W.cell? ⟨ad.block, ad.off + 2, none⟩ = some (Value.int .i64 k0.f2) ∧ W.cell? ⟨ad.block, ad.off + 3, none⟩ = some (Value.string k0.f3) ∧ W.cell? ⟨ad.block, ad.off + 4, none⟩ = some (Value.string k0.f4.f0) ∧ W.cell? ⟨ad.block, ad.off + 5, none⟩ = some (Value.string k0.f4.f1) ∧ W.cell? ⟨ad.block, ad.off + 6, none⟩ = some (Value.slice Ak0 k0.f5.length ck0) ∧ Box W (w.heap.size + 1 + 1) ∧ Below w.heap.size w W)
      ((first | ((try go_split_ands); refine ⟨?_, ?_, ?_, ?_, ?_, ?_, ?_, ?_, ?_, ?_, ?_, ?_, ?_, ?_, ?_, ?_, ?_, ?_, ?_, ?_, ?_, ?_, ?_⟩ <;> first | (with_reducible assumption) | (with_reducible exact cell_after7 (by with_reducible assumption) (by omega)) | (with_reducible exact cell_after7_0 (by with_reducible assumption) (by omega)) | (with_reducible exact below_after7 (by with_reducible assumption) (by omega)) | (with_reducible exact Box.after7 (by with_reducible assumption) (by omega)) | (with_reducible exact (hb.cell (World.block_lt_of_cell? _ _ (by with_reducible assumption))).trans (by with_reducible assumption)) | (with_reducible exact below_step (by with_reducible assumption) hb) | (with_reducible exact Box.mono (by with_reducible assumption) hb) | (with_reducible exact cell_alloc (by with_reducible assumption)) | (with_reducible exact cell_drew (cell_alloc (by with_reducible assumption))) | (with_reducible exact below_drew1 (below_alloc (by with_reducible assumption) _)) | (with_reducible exact Box.drew (Box.alloc (by with_reducible assumption) _)) | (with_reducible exact below_alloc (by with_reducible assumption) _) | (with_reducible exact Box.alloc (by with_reducible assumption) _) | (with_reducible exact cell_realloc (by with_reducible assumption) (by omega)) | (with_reducible exact cell_realloc0 (by with_reducible assumption) (by omega)) | (with_reducible exact Box.realloc (by with_reducible assumption) (by omega)) | (with_reducible exact below_alloc HL.out _) | (with_reducible exact below_realloc (by with_reducible assumption) (by omega)))))
      ((first | (go_at_call 97; refine (HE.out _ _ _ _ _ HLk0.out (Kd.C_below HCk0.out ?_)).mono ?_; (first | (with_reducible exact yl) | (with_reducible exact below_drew1 (below_alloc xl _)) | (with_reducible exact below_alloc yl _)); rintro e w' ⟨v6, rfl, hV, hb⟩; obtain ⟨A6, c6, rfl⟩ := Kd.V_slice hV; have HV := Aside0.mk hV; have HBB := Aside0.mk hb; have HR : Aside0 (Box w' (w.heap.size + 1 + 1)) := ⟨by first | (with_reducible exact Box.mono yb hb) | (with_reducible exact Box.mono (Box.drew (Box.alloc xb _)) hb) | (with_reducible exact Box.mono (Box.alloc yb _) hb)⟩; have HL : Aside0 (Below w.heap.size w w') := ⟨by first | (with_reducible exact below_step yl hb) | (with_reducible exact below_step (below_drew1 (below_alloc xl _)) hb) | (with_reducible exact below_step (below_alloc yl _) hb)⟩; have hsz := lt_of_heap HR.out; first | (have HQ : Box w' (w.heap.size + 1 + 1 + 1) := (hb.block _ (by simp [xs]; done)).trans (by rw [← xs]; exact blk_new _ _); have q0 := HQ.c0; have q1 := HQ.c1; have q2 := HQ.c2; have q3 := HQ.c3; have q4 := HQ.c4; have q5 := HQ.c5; have q6 := HQ.c6; have q7 := HQ.fr; have HQA := Aside0.mk HQ) | skip)))
    all_goals go_split_ands
    all_goals (go_wp2_with fail)
    all_goals go_meet
    all_goals have hvw : w'.heap[w.heap.size]? = some (.cells #[Value.slice A 0 c, Value.string p0, Value.string p1, Value.string p2, Value.string p3, Value.string p4, Value.string p5] 151 (0, 0)) := (HBB.out.block _ (by simp [xs] <;> omega)).trans (by first | (exact XW.out) | (exact (Below.heap_alloc _ _ _ (by omega)).trans XW.out))
    all_goals have hve : w'.heap[w.heap.size + 1]? = some (.cells #[Value.int .i64 x.f0, Value.bool x.f1, Value.int .i64 x.f2, Value.string x.f3, Value.string x.f4.f0, Value.string x.f4.f1, Value.slice (some ad) x.f5.length kc] 67 (0, 0)) := (HBB.out.block _ (by simp [xs] <;> omega)).trans (by first | (exact XE.out) | (exact (Below.heap_alloc _ _ _ (by omega)).trans XE.out))
    all_goals first | (exact got_alloc hvw hve (by simp [xs]) HV.out HR.out HL.out) | (exact got_store hvw hve (by omega) (by simp [xs]) HV.out HQA.out HR.out HL.out)
  case rest =>
    obtain ⟨b, A6, c6, rfl, rfl, hbb, hbx, ⟨hbl, hbF⟩, gw, ge, gb, gl⟩ := hcut
    clear y0 y1 y2 y3 y4 y5 y6 y7 y8 y9 y10 y11 y12 y13 y14 y15 y16 y17 y18 y19 y20 g0 g1 g2 g3 g4 g5 g6 e0 e1 e2 e3 e4 e5 e6 z0 z1 z2 z3 z4 z5 z6 yb yl ys xb xl xs XW XE
    have g0 : wc.cell? ⟨w.heap.size, 0, none⟩ = some (Value.slice A 0 c) := by unfold World.cell?; rw [gw]; rfl
    have g1 : wc.cell? ⟨w.heap.size, 1, none⟩ = some (Value.string p0) := by unfold World.cell?; rw [gw]; rfl
    have g2 : wc.cell? ⟨w.heap.size, 2, none⟩ = some (Value.string p1) := by unfold World.cell?; rw [gw]; rfl
    have g3 : wc.cell? ⟨w.heap.size, 3, none⟩ = some (Value.string p2) := by unfold World.cell?; rw [gw]; rfl
    have g4 : wc.cell? ⟨w.heap.size, 4, none⟩ = some (Value.string p3) := by unfold World.cell?; rw [gw]; rfl
    have g5 : wc.cell? ⟨w.heap.size, 5, none⟩ = some (Value.string p4) := by unfold World.cell?; rw [gw]; rfl
    have g6 : wc.cell? ⟨w.heap.size, 6, none⟩ = some (Value.string p5) := by unfold World.cell?; rw [gw]; rfl
    have e0 : wc.cell? ⟨w.heap.size + 1, 0, none⟩ = some (Value.int .i64 x.f0) := by unfold World.cell?; rw [ge]; rfl
    have e1 : wc.cell? ⟨w.heap.size + 1, 1, none⟩ = some (Value.bool x.f1) := by unfold World.cell?; rw [ge]; rfl
    have e2 : wc.cell? ⟨w.heap.size + 1, 2, none⟩ = some (Value.int .i64 x.f2) := by unfold World.cell?; rw [ge]; rfl
    have e3 : wc.cell? ⟨w.heap.size + 1, 3, none⟩ = some (Value.string x.f3) := by unfold World.cell?; rw [ge]; rfl
    have e4 : wc.cell? ⟨w.heap.size + 1, 4, none⟩ = some (Value.string x.f4.f0) := by unfold World.cell?; rw [ge]; rfl
    have e5 : wc.cell? ⟨w.heap.size + 1, 5, none⟩ = some (Value.string x.f4.f1) := by unfold World.cell?; rw [ge]; rfl
    have e6 : wc.cell? ⟨w.heap.size + 1, 6, none⟩ = some (Value.slice (some ad) x.f5.length kc) := by unfold World.cell?; rw [ge]; rfl
    have m0 : wc.cell? ⟨b, 0, none⟩ = some (Value.int .i64 r0.f0) := by unfold World.cell?; rw [hbx]; rfl
    have m1 : wc.cell? ⟨b, 1, none⟩ = some (Value.bool r0.f1) := by unfold World.cell?; rw [hbx]; rfl
    have m2 : wc.cell? ⟨b, 2, none⟩ = some (Value.int .i64 r0.f2) := by unfold World.cell?; rw [hbx]; rfl
    have m3 : wc.cell? ⟨b, 3, none⟩ = some (Value.string r0.f3) := by unfold World.cell?; rw [hbx]; rfl
    have m4 : wc.cell? ⟨b, 4, none⟩ = some (Value.string r0.f4.f0) := by unfold World.cell?; rw [hbx]; rfl
    have m5 : wc.cell? ⟨b, 5, none⟩ = some (Value.string r0.f4.f1) := by unfold World.cell?; rw [hbx]; rfl
    have m6 : wc.cell? ⟨b, 6, none⟩ = some (Value.slice A6 r0.f5.length c6) := by unfold World.cell?; rw [hbx]; rfl
    have s1l : Below w.heap.size w wc := gl
    replace u0 : wc.cell? ⟨ad.block, ad.off + 7, none⟩ = some (Value.int .i64 k1.f0) := (s1l.cell (World.block_lt_of_cell? _ _ u0)).trans u0
    replace u1 : wc.cell? ⟨ad.block, ad.off + 7 + 1, none⟩ = some (Value.bool k1.f1) := (s1l.cell (World.block_lt_of_cell? _ _ u1)).trans u1
    replace u2 : wc.cell? ⟨ad.block, ad.off + 7 + 2, none⟩ = some (Value.int .i64 k1.f2) := (s1l.cell (World.block_lt_of_cell? _ _ u2)).trans u2
    replace u3 : wc.cell? ⟨ad.block, ad.off + 7 + 3, none⟩ = some (Value.string k1.f3) := (s1l.cell (World.block_lt_of_cell? _ _ u3)).trans u3
    replace u4 : wc.cell? ⟨ad.block, ad.off + 7 + 4, none⟩ = some (Value.string k1.f4.f0) := (s1l.cell (World.block_lt_of_cell? _ _ u4)).trans u4
    replace u5 : wc.cell? ⟨ad.block, ad.off + 7 + 5, none⟩ = some (Value.string k1.f4.f1) := (s1l.cell (World.block_lt_of_cell? _ _ u5)).trans u5
    replace u6 : wc.cell? ⟨ad.block, ad.off + 7 + 6, none⟩ = some (Value.slice Ak1 k1.f5.length ck1) := (s1l.cell (World.block_lt_of_cell? _ _ u6)).trans u6
    have h1a : ((1 : Int) < (x.f5.length : Int)) = True := eq_true (by have := H1N.out; omega)
    have h1n : 1 < x.f5.length := H1N.out
    have hbn := lt_of_heap hbx
    have hbn2 := lt_of_heap gb
    have hadb : ad.block < w.heap.size := HADB.out
    have XW2 := Aside0.mk gw
    have XE2 := Aside0.mk ge
    have XB2 := Aside0.mk hbx
    have HGL := Aside0.mk gl
    have HGB := Aside0.mk gb
    have HF0 := Aside0.mk hbF
    have HL0 := Aside0.mk hbl
    clear gw ge hbx hbF hbl
    have v0 : wc.drew.cell? ⟨w.heap.size, 0, none⟩ = some (Value.slice A 0 c) := g0
    have v1 : wc.drew.cell? ⟨w.heap.size, 1, none⟩ = some (Value.string p0) := g1
    have v2 : wc.drew.cell? ⟨w.heap.size, 2, none⟩ = some (Value.string p1) := g2
    have v3 : wc.drew.cell? ⟨w.heap.size, 3, none⟩ = some (Value.string p2) := g3
    have v4 : wc.drew.cell? ⟨w.heap.size, 4, none⟩ = some (Value.string p3) := g4
    have v5 : wc.drew.cell? ⟨w.heap.size, 5, none⟩ = some (Value.string p4) := g5
    have v6 : wc.drew.cell? ⟨w.heap.size, 6, none⟩ = some (Value.string p5) := g6
    have v7 : wc.drew.cell? ⟨w.heap.size + 1, 0, none⟩ = some (Value.int .i64 x.f0) := e0
    have v8 : wc.drew.cell? ⟨w.heap.size + 1, 1, none⟩ = some (Value.bool x.f1) := e1
    have v9 : wc.drew.cell? ⟨w.heap.size + 1, 2, none⟩ = some (Value.int .i64 x.f2) := e2
    have v10 : wc.drew.cell? ⟨w.heap.size + 1, 3, none⟩ = some (Value.string x.f3) := e3
    have v11 : wc.drew.cell? ⟨w.heap.size + 1, 4, none⟩ = some (Value.string x.f4.f0) := e4
    have v12 : wc.drew.cell? ⟨w.heap.size + 1, 5, none⟩ = some (Value.string x.f4.f1) := e5
    have v13 : wc.drew.cell? ⟨w.heap.size + 1, 6, none⟩ = some (Value.slice (some ad) x.f5.length kc) := e6
    have v14 : wc.drew.cell? ⟨b, 0, none⟩ = some (Value.int .i64 r0.f0) := m0
    have v15 : wc.drew.cell? ⟨b, 1, none⟩ = some (Value.bool r0.f1) := m1
    have v16 : wc.drew.cell? ⟨b, 2, none⟩ = some (Value.int .i64 r0.f2) := m2
    have v17 : wc.drew.cell? ⟨b, 3, none⟩ = some (Value.string r0.f3) := m3
    have v18 : wc.drew.cell? ⟨b, 4, none⟩ = some (Value.string r0.f4.f0) := m4
    have v19 : wc.drew.cell? ⟨b, 5, none⟩ = some (Value.string r0.f4.f1) := m5
    have v20 : wc.drew.cell? ⟨b, 6, none⟩ = some (Value.slice A6 r0.f5.length c6) := m6
    have v21 : wc.drew.cell? ⟨ad.block, ad.off + 7, none⟩ = some (Value.int .i64 k1.f0) := u0
    have v22 : wc.drew.cell? ⟨ad.block, ad.off + 7 + 1, none⟩ = some (Value.bool k1.f1) := u1
    have v23 : wc.drew.cell? ⟨ad.block, ad.off + 7 + 2, none⟩ = some (Value.int .i64 k1.f2) := u2
    have v24 : wc.drew.cell? ⟨ad.block, ad.off + 7 + 3, none⟩ = some (Value.string k1.f3) := u3
    have v25 : wc.drew.cell? ⟨ad.block, ad.off + 7 + 4, none⟩ = some (Value.string k1.f4.f0) := u4
    have v26 : wc.drew.cell? ⟨ad.block, ad.off + 7 + 5, none⟩ = some (Value.string k1.f4.f1) := u5
    have v27 : wc.drew.cell? ⟨ad.block, ad.off + 7 + 6, none⟩ = some (Value.slice Ak1 k1.f5.length ck1) := u6
    have yb2 : Box wc.drew (w.heap.size + 1 + 1) := gb
    have yl2 : Below w.heap.size w wc.drew := below_drew1 gl
    go_wp2_with fail
    go_cut [7, 8] from 86 to 94 (fun s7 s8 wx => Got w #[Value.slice A 0 c, Value.string p0, Value.string p1, Value.string p2, Value.string p3, Value.string p4, Value.string p5] #[Value.int .i64 x.f0, Value.bool x.f1, Value.int .i64 x.f2, Value.string x.f3, Value.string x.f4.f0, Value.string x.f4.f1, Value.slice (some ad) x.f5.length kc] r1 0 s8 s7 wx ∧ wx.heap[b]? = some (.cells #[Value.int .i64 r0.f0, Value.bool r0.f1, Value.int .i64 r0.f2, Value.string r0.f3, Value.string r0.f4.f0, Value.string r0.f4.f1, Value.slice A6 r0.f5.length c6] 31 (0, 0)) ∧ Kd.F k31 wx (fun k_ => w.heap.size + 3 ≤ k_ ∧ k_ < wc.heap.size) A6 r0.f5.length r0.f5)
    case first =>
      go_region_held3 (fun W => W.cell? ⟨w.heap.size, 0, none⟩ = some (Value.slice A 0 c) ∧ W.cell? ⟨w.heap.size, 1, none⟩ = some (Value.string p0) ∧ W.cell? ⟨w.heap.size, 2, none⟩ = some (Value.string p1) ∧ W.cell? ⟨w.heap.size, 3, none⟩ = some (Value.string p2) ∧ W.cell? ⟨w.heap.size, 4, none⟩ = some (Value.string p3) ∧ W.cell? ⟨w.heap.size, 5, none⟩ = some (Value.string p4) ∧ W.cell? ⟨w.heap.size, 6, none⟩ = some (Value.string p5) ∧ W.cell? ⟨w.heap.size + 1, 0, none⟩ = some (Value.int .i64 x.f0) ∧ W.cell? ⟨w.heap.size + 1, 1, none⟩ = some (Value.bool x.f1) ∧ W.cell? ⟨w.heap.size + 1, 2, none⟩ = some (Value.int .i64 x.f2) ∧ W.cell? ⟨w.heap.size + 1, 3, none⟩ = some (Value.string x.f3) ∧ W.cell? ⟨w.heap.size + 1, 4, none⟩ = some (Value.string x.f4.f0) ∧ W.cell? ⟨w.heap.size + 1, 5, none⟩ = some (Value.string x.f4.f1) ∧ W.cell? ⟨w.heap.size + 1, 6, none⟩ = some (Value.slice (some ad) x.f5.length kc) ∧ W.cell? ⟨b, 0, none⟩ = some (Value.int .i64 r0.f0) ∧ W.cell? ⟨b, 1, none⟩ = some (Value.bool r0.f1) ∧ W.cell? ⟨b, 2, none⟩ = some (Value.int .i64 r0.f2) ∧ W.cell? ⟨b, 3, none⟩ = some (Value.string r0.f3) ∧ W.cell? ⟨b, 4, none⟩ = some (Value.string r0.f4.f0) ∧ W.cell? ⟨b, 5, none⟩ = some (Value.string r0.f4.f1) ∧ W.cell? ⟨b, 6, none⟩ = some (Value.slice A6 r0.f5.length c6) ∧ W.cell? ⟨ad.block, ad.off + 7, none⟩ = some (Value.int .i64 k1.f0) ∧ W.cell? ⟨ad.block, ad.off + 7 + 1, none⟩ = some (Value.bool k1.f1) ∧ W.cell? ⟨ad.block, ad.off + 7 + 2, none⟩ = some (Value.int .i64 k1.f2) ∧ W.cell? ⟨ad.block, ad.off + 7 + 3, none⟩ = some (Value.string k1.f3) ∧ W.cell? ⟨ad.block, ad.off + 7 + 4, none⟩ = some (Value.string k1.f4.f0) ∧ W.cell? ⟨ad.block, ad.off + 7 + 5, none⟩ = some (Value.string k1.f4.f1) ∧ W.cell? ⟨ad.block, ad.off + 7 + 6, none⟩ = some (Value.slice Ak1 k1.f5.length ck1) ∧ Box W (w.heap.size + 1 + 1) ∧ Below w.heap.size w W)
        ((first | ((try go_split_ands); refine ⟨?_, ?_, ?_, ?_, ?_, ?_, ?_, ?_, ?_, ?_, ?_, ?_, ?_, ?_, ?_, ?_, ?_, ?_, ?_, ?_, ?_, ?_, ?_, ?_, ?_, ?_, ?_, ?_, ?_, ?_⟩ <;> first | (with_reducible assumption) | (with_reducible exact cell_after7 (by with_reducible assumption) (by omega)) | (with_reducible exact cell_after7_0 (by with_reducible assumption) (by omega)) | (with_reducible exact below_after7 (by with_reducible assumption) (by omega)) | (with_reducible exact Box.after7 (by with_reducible assumption) (by omega)) | (with_reducible exact (hb.cell (World.block_lt_of_cell? _ _ (by with_reducible assumption))).trans (by with_reducible assumption)) | (with_reducible exact below_step (by with_reducible assumption) hb) | (with_reducible exact Box.mono (by with_reducible assumption) hb) | (with_reducible exact cell_alloc (by with_reducible assumption)) | (with_reducible exact cell_drew (cell_alloc (by with_reducible assumption))) | (with_reducible exact below_drew1 (below_alloc (by with_reducible assumption) _)) | (with_reducible exact Box.drew (Box.alloc (by with_reducible assumption) _)) | (with_reducible exact below_alloc (by with_reducible assumption) _) | (with_reducible exact Box.alloc (by with_reducible assumption) _) | (with_reducible exact cell_realloc (by with_reducible assumption) (by omega)) | (with_reducible exact cell_realloc0 (by with_reducible assumption) (by omega)) | (with_reducible exact Box.realloc (by with_reducible assumption) (by omega)) | (with_reducible exact below_alloc HL.out _) | (with_reducible exact below_realloc (by with_reducible assumption) (by omega)))))
        ((first | (go_at_call 97; refine (HE1.out _ _ _ _ _ HLk1.out (Kd.C_below HCk1.out ?_)).mono ?_; (first | (with_reducible exact yl2) | (with_reducible exact below_drew1 (below_alloc gl _)) | (with_reducible exact below_alloc yl2 _)); rintro e w' ⟨v6, rfl, hV, hb⟩; obtain ⟨A8, c8, rfl⟩ := Kd.V_slice hV; have HV := Aside0.mk hV; have HBB := Aside0.mk hb; have HR : Aside0 (Box w' (w.heap.size + 1 + 1)) := ⟨by first | (with_reducible exact Box.mono yb2 hb) | (with_reducible exact Box.mono (Box.drew (Box.alloc gb _)) hb) | (with_reducible exact Box.mono (Box.alloc yb2 _) hb)⟩; have HL : Aside0 (Below w.heap.size w w') := ⟨by first | (with_reducible exact below_step yl2 hb) | (with_reducible exact below_step (below_drew1 (below_alloc gl _)) hb) | (with_reducible exact below_step (below_alloc yl2 _) hb)⟩; have hsz := lt_of_heap HR.out; have hszb : wc.heap.size ≤ w'.heap.size := Nat.le_trans (by first | exact Nat.le_refl _ | (simp; done)) hb.size; first | (have HQ : Box w' wc.heap.size := (hb.block _ (by simp; done)).trans (blk_new _ _); have q0 := HQ.c0; have q1 := HQ.c1; have q2 := HQ.c2; have q3 := HQ.c3; have q4 := HQ.c4; have q5 := HQ.c5; have q6 := HQ.c6; have q7 := HQ.fr; have HQA := Aside0.mk HQ) | skip)))
      all_goals go_split_ands
      all_goals (go_wp2_with fail)
      all_goals go_meet
      all_goals have hw1 := lt_of_heap XW2.out
      all_goals have hw2 := lt_of_heap XE2.out
      all_goals have hvw : w'.heap[w.heap.size]? = some (.cells #[Value.slice A 0 c, Value.string p0, Value.string p1, Value.string p2, Value.string p3, Value.string p4, Value.string p5] 151 (0, 0)) := (HBB.out.block _ (by simp <;> omega)).trans (by first | (exact XW2.out) | (exact (Below.heap_alloc _ _ _ (by omega)).trans XW2.out))
      all_goals have hve : w'.heap[w.heap.size + 1]? = some (.cells #[Value.int .i64 x.f0, Value.bool x.f1, Value.int .i64 x.f2, Value.string x.f3, Value.string x.f4.f0, Value.string x.f4.f1, Value.slice (some ad) x.f5.length kc] 67 (0, 0)) := (HBB.out.block _ (by simp <;> omega)).trans (by first | (exact XE2.out) | (exact (Below.heap_alloc _ _ _ (by omega)).trans XE2.out))
      all_goals have hvb : w'.heap[b]? = some (.cells #[Value.int .i64 r0.f0, Value.bool r0.f1, Value.int .i64 r0.f2, Value.string r0.f3, Value.string r0.f4.f0, Value.string r0.f4.f1, Value.slice A6 r0.f5.length c6] 31 (0, 0)) := (HBB.out.block _ (by simp <;> omega)).trans (by first | (exact XB2.out) | (exact (Below.heap_alloc _ _ _ (by omega)).trans XB2.out))
      all_goals have hf0 : Kd.F k31 w' (fun k_ => w.heap.size + 3 ≤ k_ ∧ k_ < wc.heap.size) A6 r0.f5.length r0.f5 := Kd.F_step (Kd.F_bound HF0.out) (fun k hk _ => (HBB.out.block k (by have := hk.2; first | exact this | (simp; omega))).trans (by first | (exact Below.heap_alloc _ _ _ hk.2) | rfl))
      all_goals first | (with_reducible refine ⟨got_alloc hvw hve ?_ HV.out HR.out HL.out, ?_, Kd.F_alloc hf0 _⟩; (simp <;> omega); exact (Below.heap_alloc _ _ _ (by omega)).trans hvb) | (refine ⟨got_store hvw hve (by omega) (N := wc.heap.size + 1) (Nat.le_refl _) (Kd.V_mono HV.out (fun k_ hk => by simp at hk; omega)) HQA.out HR.out HL.out, ?_, ?_⟩; exact (heap_after7 _ _ _ _ _ _ _ (by omega)).trans hvb; exact Kd.F_step hf0 (fun k hk _ => heap_after7 _ _ _ _ _ _ _ (by have := hk.2; omega)))
    case rest =>
      obtain ⟨⟨b2, A8, c8, rfl, rfl, hbb2, hbx2, ⟨hbl2, hbF2⟩, gw2, ge2, gb2, gl2⟩, hbx1, hbF1⟩ := hcut
      clear v0 v1 v2 v3 v4 v5 v6 v7 v8 v9 v10 v11 v12 v13 v14 v15 v16 v17 v18 v19 v20 v21 v22 v23 v24 v25 v26 v27 g0 g1 g2 g3 g4 g5 g6 e0 e1 e2 e3 e4 e5 e6 m0 m1 m2 m3 m4 m5 m6 u0 u1 u2 u3 u4 u5 u6 yb2 yl2 gb gl s1l HF0
      have g0 : wc.cell? ⟨w.heap.size, 0, none⟩ = some (Value.slice A 0 c) := by unfold World.cell?; rw [gw2]; rfl
      have g1 : wc.cell? ⟨w.heap.size, 1, none⟩ = some (Value.string p0) := by unfold World.cell?; rw [gw2]; rfl
      have g2 : wc.cell? ⟨w.heap.size, 2, none⟩ = some (Value.string p1) := by unfold World.cell?; rw [gw2]; rfl
      have g3 : wc.cell? ⟨w.heap.size, 3, none⟩ = some (Value.string p2) := by unfold World.cell?; rw [gw2]; rfl
      have g4 : wc.cell? ⟨w.heap.size, 4, none⟩ = some (Value.string p3) := by unfold World.cell?; rw [gw2]; rfl
      have g5 : wc.cell? ⟨w.heap.size, 5, none⟩ = some (Value.string p4) := by unfold World.cell?; rw [gw2]; rfl
      have g6 : wc.cell? ⟨w.heap.size, 6, none⟩ = some (Value.string p5) := by unfold World.cell?; rw [gw2]; rfl
      have e0 : wc.cell? ⟨w.heap.size + 1, 0, none⟩ = some (Value.int .i64 x.f0) := by unfold World.cell?; rw [ge2]; rfl
      have e1 : wc.cell? ⟨w.heap.size + 1, 1, none⟩ = some (Value.bool x.f1) := by unfold World.cell?; rw [ge2]; rfl
      have e2 : wc.cell? ⟨w.heap.size + 1, 2, none⟩ = some (Value.int .i64 x.f2) := by unfold World.cell?; rw [ge2]; rfl
      have e3 : wc.cell? ⟨w.heap.size + 1, 3, none⟩ = some (Value.string x.f3) := by unfold World.cell?; rw [ge2]; rfl
      have e4 : wc.cell? ⟨w.heap.size + 1, 4, none⟩ = some (Value.string x.f4.f0) := by unfold World.cell?; rw [ge2]; rfl
      have e5 : wc.cell? ⟨w.heap.size + 1, 5, none⟩ = some (Value.string x.f4.f1) := by unfold World.cell?; rw [ge2]; rfl
      have e6 : wc.cell? ⟨w.heap.size + 1, 6, none⟩ = some (Value.slice (some ad) x.f5.length kc) := by unfold World.cell?; rw [ge2]; rfl
      have m0 : wc.cell? ⟨b, 0, none⟩ = some (Value.int .i64 r0.f0) := by unfold World.cell?; rw [hbx1]; rfl
      have m1 : wc.cell? ⟨b, 1, none⟩ = some (Value.bool r0.f1) := by unfold World.cell?; rw [hbx1]; rfl
      have m2 : wc.cell? ⟨b, 2, none⟩ = some (Value.int .i64 r0.f2) := by unfold World.cell?; rw [hbx1]; rfl
      have m3 : wc.cell? ⟨b, 3, none⟩ = some (Value.string r0.f3) := by unfold World.cell?; rw [hbx1]; rfl
      have m4 : wc.cell? ⟨b, 4, none⟩ = some (Value.string r0.f4.f0) := by unfold World.cell?; rw [hbx1]; rfl
      have m5 : wc.cell? ⟨b, 5, none⟩ = some (Value.string r0.f4.f1) := by unfold World.cell?; rw [hbx1]; rfl
      have m6 : wc.cell? ⟨b, 6, none⟩ = some (Value.slice A6 r0.f5.length c6) := by unfold World.cell?; rw [hbx1]; rfl
      have n0 : wc.cell? ⟨b2, 0, none⟩ = some (Value.int .i64 r1.f0) := by unfold World.cell?; rw [hbx2]; rfl
      have n1 : wc.cell? ⟨b2, 1, none⟩ = some (Value.bool r1.f1) := by unfold World.cell?; rw [hbx2]; rfl
      have n2 : wc.cell? ⟨b2, 2, none⟩ = some (Value.int .i64 r1.f2) := by unfold World.cell?; rw [hbx2]; rfl
      have n3 : wc.cell? ⟨b2, 3, none⟩ = some (Value.string r1.f3) := by unfold World.cell?; rw [hbx2]; rfl
      have n4 : wc.cell? ⟨b2, 4, none⟩ = some (Value.string r1.f4.f0) := by unfold World.cell?; rw [hbx2]; rfl
      have n5 : wc.cell? ⟨b2, 5, none⟩ = some (Value.string r1.f4.f1) := by unfold World.cell?; rw [hbx2]; rfl
      have n6 : wc.cell? ⟨b2, 6, none⟩ = some (Value.slice A8 r1.f5.length c8) := by unfold World.cell?; rw [hbx2]; rfl
      have HGB2 := Aside0.mk gb2
      have HGL2 := Aside0.mk gl2
      have HK1 := Aside0.mk (Kd.F_now hbF1)
      have HK2 := Aside0.mk (Kd.F_now hbF2)
      have HM2 := Aside0.mk hbl2
      have q0 := HGB2.out.c0; have q1 := HGB2.out.c1; have q2 := HGB2.out.c2; have q3 := HGB2.out.c3; have q4 := HGB2.out.c4; have q5 := HGB2.out.c5; have q6 := HGB2.out.c6; have q7 := HGB2.out.fr
      clear gb2 gl2 hbF1 hbF2 hbl2
      go_wp2_with (go_at_call 139; (with_reducible refine (H2.out _ _ _ _ _ HGL2.out HL0.out HK1.out HM2.out HK2.out).mono ?_); rintro e w1 ⟨v6, rfl, hV, hb⟩; obtain ⟨AR, cR, rfl⟩ := Kd.V_slice hV; have HS0 := hb.size; have HV := Aside0.mk (Kd.V_mono hV (ok' := fun k_ => w.heap.size + 3 ≤ k_) (fun k_ hk => by have := lt_of_heap HGB2.out; have hk1 : wc.heap.size ≤ k_ := hk; omega)); have HB1 : Aside0 (Below w.heap.size w w1) := ⟨below_step HGL2.out hb⟩; have HX1 : Aside0 (Box w1 (w.heap.size + 1 + 1)) := ⟨(hb.block _ (lt_of_heap HGB2.out)).trans HGB2.out⟩; have q0 := HX1.out.c0; have q1 := HX1.out.c1; have q2 := HX1.out.c2; have q3 := HX1.out.c3; have q4 := HX1.out.c4; have q5 := HX1.out.c5; have q6 := HX1.out.c6; have q7 := HX1.out.fr; clear hV hb)
      (try simp only [Exit.inBlock, Exit.then])
      have hd := HX1.out.done (.int .i64 r.f0) (.bool r.f1) (.int .i64 r.f2) (.string r.f3) (.string r.f4.f0) (.string r.f4.f1) (.slice AR r.f5.length cR)
      have hbl := HB1.out.trans (below_cells (B := w.heap.size) (w.heap.size + 1 + 1) (by omega) [.int .i64 r.f0, .bool r.f1, .int .i64 r.f2, .string r.f3, .string r.f4.f0, .string r.f4.f1, .slice AR r.f5.length cR] 0 w1)
      simp only [World.setCells] at hd hbl
      refine bodyPost_ret (results_row_tmp rfl _ _ (w.heap.size + 1 + 1) 31 _ (0, 0) _ rfl hd Try.underlying31 rfl (by kernel_rfl)) rfl ?_
      exact ⟨_, rfl, Kd.V_mono (Kd.V_step HV.out (fun k_ hk _ => heap_after7 _ _ _ _ _ _ _ (by omega))) (fun k_ hk => by omega), hbl⟩
end Go.Proofs.Ytfmghijmcgkpiaa.GE
