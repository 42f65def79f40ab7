import Derived.Test.YtelibndkkokadaaGreatGB0
import Derived.StillTailTactics
import Derived.Outline
import Derived.Laws.ResultCell
import Derived.Laws.Rows
import Derived.Laws.MakeOwn
import Derived.Test.YtelibndkkokadaaGreatGB1
import Derived.Test.YtelibndkkokadaaGreatEb
import Derived.Deep.RegionWith
import Derived.Test.YtelibndkkokadaaGreatSqz
namespace Go.Proofs.YtelibndkkokadaaGreat.DC
open Go.RowKit Go.Proofs.YtelibndkkokadaaGreatW.PrintWords Go.Proofs.YtelibndkkokadaaGreatW.PrintLast Go.Proofs.YtelibndkkokadaaGreat.HandV Go.Proofs.YtelibndkkokadaaGreatW.PrintMore
open Go.Proofs.YtelibndkkokadaaGreat.GB
attribute [local go_sem] max2_int min2_int max_two min_two max_three min_three max_four min_four   -- for this text's walks alone
set_option linter.unusedVariables false
set_option linter.unusedSimpArgs false
-- IMPORT Derived.StillTailTactics
-- IMPORT Derived.Outline
-- IMPORT Derived.Laws.ResultCell
-- IMPORT Derived.Laws.Rows
-- IMPORT Derived.Laws.MakeOwn
abbrev zN : Value := .agg #[.string ⟨#[]⟩, .bool false, .int .i64 0, .string ⟨#[]⟩, .string ⟨#[]⟩, .int .i64 0, .string ⟨#[]⟩, .string ⟨#[]⟩, .int .i64 0, .string ⟨#[]⟩, .string ⟨#[]⟩, .slice none 0 0]
theorem infoN : (Tryz.prog.info? 79).map (fun i => (i.zero, i.size, i.bytes)) = some (some zN, 12, 168) := by kernel_rfl
abbrev zNC : Array Value := #[.string ⟨#[]⟩, .bool false, .int .i64 0, .string ⟨#[]⟩, .string ⟨#[]⟩, .int .i64 0, .string ⟨#[]⟩, .string ⟨#[]⟩, .int .i64 0, .string ⟨#[]⟩, .string ⟨#[]⟩, .slice none 0 0]
theorem made0 (z : Array Value) (n : Nat) : madeCells z (Int.toNat 0 * n) = #[] := by
  apply Array.eq_empty_of_size_eq_zero
  rw [size_madeCells]
  exact Nat.zero_mul n
theorem made1 : madeCells zN.cells (Int.toNat 1 * 12) = zNC := by
  apply Array.ext
  · rw [size_madeCells]; rfl
  · intro i h1 h2
    have h3 : i < 12 := h2
    have h4 : i = 0 ∨ i = 1 ∨ i = 2 ∨ i = 3 ∨ i = 4 ∨ i = 5 ∨ i = 6 ∨ i = 7 ∨ i = 8 ∨ i = 9 ∨ i = 10 ∨ i = 11 := by omega
    rcases h4 with rfl | rfl | rfl | rfl | rfl | rfl | rfl | rfl | rfl | rfl | rfl | rfl <;> (simp [madeCells, zNC]; rfl)
theorem make0 (W : World) : Sem.run Tryz.prog (Instr.makeSlice 80 (.int .i64 0) (.int .i64 0)) W = .ok (.slice (some ⟨W.heap.size, 0, none⟩) 0 0) (W.alloc (.cells #[] 79)) := by
  have hI := infoN
  cases hi : Tryz.prog.info? 79 with
  | none => rw [hi] at hI; cases hI
  | some i =>
    rw [hi] at hI
    simp only [Option.map_some, Option.some.injEq, Prod.mk.injEq] at hI
    have h := run_make W 80 79 i zN Tryz.underlying80 hi hI.1 .i64 .i64 0 0 (by decide) (by decide) (by omega) (by decide)
    rw [h, made0]
    rfl
theorem make1 (W : World) : Sem.run Tryz.prog (Instr.makeSlice 80 (.int .i64 1) (.int .i64 1)) W = .ok (.slice (some ⟨W.heap.size, 0, none⟩) 1 1) (W.alloc (.cells zNC 79)) := by
  have hI := infoN
  cases hi : Tryz.prog.info? 79 with
  | none => rw [hi] at hI; cases hI
  | some i =>
    rw [hi] at hI
    simp only [Option.map_some, Option.some.injEq, Prod.mk.injEq] at hI
    have h := run_make W 80 79 i zN Tryz.underlying80 hi hI.1 .i64 .i64 1 1 (by decide) (by decide) (by rw [hI.2.2]; decide) (by decide)
    rw [h, hI.2.1, made1]
    rfl
end Go.Proofs.YtelibndkkokadaaGreat.DC
namespace Go.Proofs.YtelibndkkokadaaGreat.DC
open Go.RowKit Go.Proofs.YtelibndkkokadaaGreatW.PrintWords Go.Proofs.YtelibndkkokadaaGreatW.PrintLast Go.Proofs.YtelibndkkokadaaGreat.HandV Go.Proofs.YtelibndkkokadaaGreatW.PrintMore
open Go.Proofs.YtelibndkkokadaaGreat.GB
attribute [local go_sem] max2_int min2_int max_two min_two max_three min_three max_four min_four   -- for this text's walks alone
set_option linter.unusedVariables false
set_option linter.unusedSimpArgs false
-- IMPORT .DC0
-- IMPORT .GB1
attribute [local go_sem high] eqA28
set_option maxRecDepth 100000 in
set_option maxHeartbeats 16000000 in
theorem scope_any (A : Option Addr) (n c : Nat) (t i u v : ByteArray) (w : World) : Calls Tryz.prog 26 #[.slice A n c, .agg #[.int .i64 0, .string t, .string i], .agg #[.string u, .string v]] w fun e w' => e = .returned (.bool true) ∧ Below w.heap.size w w' := by
  go_enter Tryz.func26, Tryz.ntmps26
  go_wp2
  go_ret
  exact ⟨rfl, below_alloc (below_alloc (Below.refl _ _) _) _⟩
set_option maxRecDepth 100000 in
set_option maxHeartbeats 16000000 in
theorem scope_same (A : Option Addr) (n c : Nat) (t i u v : ByteArray) (w : World) : Calls Tryz.prog 26 #[.slice A n c, .agg #[.int .i64 1, .string t, .string i], .agg #[.string u, .string v]] w fun e w' => e = .returned (.bool (u.toList == t.toList && (v.toList == i.toList))) ∧ Below w.heap.size w w' := by
  go_enter Tryz.func26, Tryz.ntmps26
  go_wp2
  go_ret
  exact ⟨rfl, below_alloc (below_alloc (Below.refl _ _) _) _⟩
set_option maxRecDepth 100000 in
set_option maxHeartbeats 16000000 in
theorem scope_in (A : Option Addr) (n c : Nat) (t i u v : ByteArray) (q : Bool) (w : World) (hI : ∀ W, Below w.heap.size w W → Calls Tryz.prog 39 #[.slice A n c, .agg #[.string u, .string v], .agg #[.string t, .string i]] W fun e w' => e = .returned (.bool q) ∧ Below W.heap.size W w') : Calls Tryz.prog 26 #[.slice A n c, .agg #[.int .i64 2, .string t, .string i], .agg #[.string u, .string v]] w fun e w' => e = .returned (.bool q) ∧ Below w.heap.size w w' := by
  have HI := Aside0.mk hI
  clear hI
  go_enter Tryz.func26, Tryz.ntmps26
  go_wp2_with (go_at_call 39; refine (HI.out _ (below_alloc (below_alloc (Below.refl _ _) _) _)).mono ?_; rintro e w1 ⟨rfl, hb⟩; have HB := Aside0.mk (below_step (below_alloc (below_alloc (Below.refl _ _) _) _ : Below w.heap.size w _) hb); clear hb)
  go_ret
  exact ⟨rfl, HB.out⟩
/-- The boxes of One. -/
structure XO (w : World) (rc pc : Array Value) (W : World) : Prop where
  b0 : W.heap[w.heap.size]? = some (.cells rc 44 (0, 0))
  b1 : W.heap[w.heap.size + 1]? = some (.cells pc 57 (0, 0))
  be : Below w.heap.size w W
theorem XO.step {w W W' : World} {rc pc : Array Value} (h : XO w rc pc W) (hb : Below W.heap.size W W') : XO w rc pc W' := ⟨blk_below h.b0 hb, blk_below h.b1 hb, below_step h.be hb⟩
theorem bnew2 (w : World) (o1 o2 : Obj) : ((w.alloc o1).alloc o2).heap[w.heap.size + 1]? = some o2 := by
  have h := blk_new (w.alloc o1) o2
  have hs : (w.alloc o1).heap.size = w.heap.size + 1 := by simp
  rw [hs] at h
  exact h
theorem XO.new (w : World) (rc pc : Array Value) : XO w rc pc ((w.alloc (.cells rc 44 (0, 0))).alloc (.cells pc 57 (0, 0))) := ⟨blk_alloc (blk_new _ _) _, bnew2 _ _ _, below_alloc (below_alloc (Below.refl _ _) _) _⟩
theorem c6 {W : World} {g : Nat} {t : TypeId} {a0 a1 a2 a3 a4 a5 : Value} (h : W.heap[g]? = some (.cells #[a0, a1, a2, a3, a4, a5] t (0, 0))) : W.cell? ⟨g, 0, none⟩ = some a0 ∧ W.cell? ⟨g, 1, none⟩ = some a1 ∧ W.cell? ⟨g, 2, none⟩ = some a2 ∧ W.cell? ⟨g, 3, none⟩ = some a3 ∧ W.cell? ⟨g, 4, none⟩ = some a4 ∧ W.cell? ⟨g, 5, none⟩ = some a5 :=
  ⟨(blk_cell h 0).trans rfl, (blk_cell h 1).trans rfl, (blk_cell h 2).trans rfl, (blk_cell h 3).trans rfl, (blk_cell h 4).trans rfl, (blk_cell h 5).trans rfl⟩
theorem c11 {W : World} {g : Nat} {t : TypeId} {a0 a1 a2 a3 a4 a5 a6 a7 a8 a9 a10 : Value} (h : W.heap[g]? = some (.cells #[a0, a1, a2, a3, a4, a5, a6, a7, a8, a9, a10] t (0, 0))) : W.cell? ⟨g, 1, none⟩ = some a1 ∧ W.cell? ⟨g, 2, none⟩ = some a2 ∧ W.cell? ⟨g, 3, none⟩ = some a3 ∧ W.cell? ⟨g, 4, none⟩ = some a4 ∧ W.cell? ⟨g, 5, none⟩ = some a5 ∧ W.cell? ⟨g, 6, none⟩ = some a6 ∧ W.cell? ⟨g, 7, none⟩ = some a7 ∧ W.cell? ⟨g, 8, none⟩ = some a8 ∧ W.cell? ⟨g, 9, none⟩ = some a9 ∧ W.cell? ⟨g, 10, none⟩ = some a10 :=
  ⟨(blk_cell h 1).trans rfl, (blk_cell h 2).trans rfl, (blk_cell h 3).trans rfl, (blk_cell h 4).trans rfl, (blk_cell h 5).trans rfl, (blk_cell h 6).trans rfl, (blk_cell h 7).trans rfl, (blk_cell h 8).trans rfl, (blk_cell h 9).trans rfl, (blk_cell h 10).trans rfl⟩
set_option maxRecDepth 100000 in
set_option maxHeartbeats 16000000 in
theorem one_f (A : Option Addr) (n c : Nat) (p0 p1 p2 p3 p4 p5 : ByteArray) (fb : Bool) (k1 : Int) (t1 i1 : ByteArray) (k2 : Int) (t2 i2 : ByteArray) (k3 : Int) (t3 i3 : ByteArray) (w : World)
    (H1 : ∀ W, Below w.heap.size w W → Calls Tryz.prog 26 #[.slice A n c, .agg #[.int .i64 k1, .string t1, .string i1], .agg #[.string p0, .string p1]] W fun e w' => e = .returned (.bool false) ∧ Below W.heap.size W w') : Calls Tryz.prog 14 #[.slice A n c, .agg #[.string p0, .string p1, .string p2, .string p3, .string p4, .string p5], .agg #[.bool fb, .int .i64 k1, .string t1, .string i1, .int .i64 k2, .string t2, .string i2, .int .i64 k3, .string t3, .string i3, .slice none 0 0]] w fun e w' => e = .returned (.tuple #[.bool false, .int .i64 0]) ∧ Below w.heap.size w w' := by
  have HH1 := Aside0.mk H1
  clear H1
  have HX := Aside0.mk (XO.new w #[.string p0, .string p1, .string p2, .string p3, .string p4, .string p5] #[.bool fb, .int .i64 k1, .string t1, .string i1, .int .i64 k2, .string t2, .string i2, .int .i64 k3, .string t3, .string i3, .slice none 0 0])
  go_enter Tryz.func14, Tryz.ntmps14
  go_upto_region 1 with (fail)
  generalize (w.alloc (.cells #[.string p0, .string p1, .string p2, .string p3, .string p4, .string p5] 44)).alloc (.cells #[.bool fb, .int .i64 k1, .string t1, .string i1, .int .i64 k2, .string t2, .string i2, .int .i64 k3, .string t3, .string i3, .slice none 0 0] 57) = w0 at HX ⊢
  obtain ⟨y0, y1, y2, y3, y4, y5⟩ := c6 HX.out.b0
  obtain ⟨z1, z2, z3, z4, z5, z6, z7, z8, z9, z10⟩ := c11 HX.out.b1
  go_wp2_with (fail)
  clear y0 y1 y2 y3 y4 y5 z1 z2 z3 z4 z5 z6 z7 z8 z9 z10
  refine (HH1.out _ HX.out.be).mono ?_
  rintro e w1 ⟨rfl, hb⟩
  replace HX := Aside0.mk (HX.out.step hb)
  clear hb
  obtain ⟨y0, y1, y2, y3, y4, y5⟩ := c6 HX.out.b0
  obtain ⟨z1, z2, z3, z4, z5, z6, z7, z8, z9, z10⟩ := c11 HX.out.b1
  go_wp2
  go_ret2
  exact ⟨rfl, HX.out.be⟩
set_option maxRecDepth 100000 in
set_option maxHeartbeats 16000000 in
theorem one_tf (A : Option Addr) (n c : Nat) (p0 p1 p2 p3 p4 p5 : ByteArray) (fb : Bool) (k1 : Int) (t1 i1 : ByteArray) (k2 : Int) (t2 i2 : ByteArray) (k3 : Int) (t3 i3 : ByteArray) (w : World)
    (H1 : ∀ W, Below w.heap.size w W → Calls Tryz.prog 26 #[.slice A n c, .agg #[.int .i64 k1, .string t1, .string i1], .agg #[.string p0, .string p1]] W fun e w' => e = .returned (.bool true) ∧ Below W.heap.size W w')
    (H2 : ∀ W, Below w.heap.size w W → Calls Tryz.prog 26 #[.slice A n c, .agg #[.int .i64 k2, .string t2, .string i2], .agg #[.string p2, .string p3]] W fun e w' => e = .returned (.bool false) ∧ Below W.heap.size W w') : Calls Tryz.prog 14 #[.slice A n c, .agg #[.string p0, .string p1, .string p2, .string p3, .string p4, .string p5], .agg #[.bool fb, .int .i64 k1, .string t1, .string i1, .int .i64 k2, .string t2, .string i2, .int .i64 k3, .string t3, .string i3, .slice none 0 0]] w fun e w' => e = .returned (.tuple #[.bool false, .int .i64 0]) ∧ Below w.heap.size w w' := by
  have HH1 := Aside0.mk H1
  have HH2 := Aside0.mk H2
  clear H1 H2
  have HX := Aside0.mk (XO.new w #[.string p0, .string p1, .string p2, .string p3, .string p4, .string p5] #[.bool fb, .int .i64 k1, .string t1, .string i1, .int .i64 k2, .string t2, .string i2, .int .i64 k3, .string t3, .string i3, .slice none 0 0])
  go_enter Tryz.func14, Tryz.ntmps14
  go_upto_region 1 with (fail)
  generalize (w.alloc (.cells #[.string p0, .string p1, .string p2, .string p3, .string p4, .string p5] 44)).alloc (.cells #[.bool fb, .int .i64 k1, .string t1, .string i1, .int .i64 k2, .string t2, .string i2, .int .i64 k3, .string t3, .string i3, .slice none 0 0] 57) = w0 at HX ⊢
  obtain ⟨y0, y1, y2, y3, y4, y5⟩ := c6 HX.out.b0
  obtain ⟨z1, z2, z3, z4, z5, z6, z7, z8, z9, z10⟩ := c11 HX.out.b1
  go_wp2_with (fail)
  clear y0 y1 y2 y3 y4 y5 z1 z2 z3 z4 z5 z6 z7 z8 z9 z10
  refine (HH1.out _ HX.out.be).mono ?_
  rintro e w1 ⟨rfl, hb⟩
  replace HX := Aside0.mk (HX.out.step hb)
  clear hb
  obtain ⟨y0, y1, y2, y3, y4, y5⟩ := c6 HX.out.b0
  obtain ⟨z1, z2, z3, z4, z5, z6, z7, z8, z9, z10⟩ := c11 HX.out.b1
  go_wp2_with (fail)
  clear y0 y1 y2 y3 y4 y5 z1 z2 z3 z4 z5 z6 z7 z8 z9 z10
  refine (HH2.out _ HX.out.be).mono ?_
  rintro e w2 ⟨rfl, hb⟩
  replace HX := Aside0.mk (HX.out.step hb)
  clear hb
  obtain ⟨y0, y1, y2, y3, y4, y5⟩ := c6 HX.out.b0
  obtain ⟨z1, z2, z3, z4, z5, z6, z7, z8, z9, z10⟩ := c11 HX.out.b1
  go_wp2
  go_ret2
  exact ⟨rfl, HX.out.be⟩
set_option maxRecDepth 100000 in
set_option maxHeartbeats 16000000 in
theorem one_ttf (A : Option Addr) (n c : Nat) (p0 p1 p2 p3 p4 p5 : ByteArray) (fb : Bool) (k1 : Int) (t1 i1 : ByteArray) (k2 : Int) (t2 i2 : ByteArray) (k3 : Int) (t3 i3 : ByteArray) (w : World)
    (H1 : ∀ W, Below w.heap.size w W → Calls Tryz.prog 26 #[.slice A n c, .agg #[.int .i64 k1, .string t1, .string i1], .agg #[.string p0, .string p1]] W fun e w' => e = .returned (.bool true) ∧ Below W.heap.size W w')
    (H2 : ∀ W, Below w.heap.size w W → Calls Tryz.prog 26 #[.slice A n c, .agg #[.int .i64 k2, .string t2, .string i2], .agg #[.string p2, .string p3]] W fun e w' => e = .returned (.bool true) ∧ Below W.heap.size W w')
    (H3 : ∀ W, Below w.heap.size w W → Calls Tryz.prog 26 #[.slice A n c, .agg #[.int .i64 k3, .string t3, .string i3], .agg #[.string p4, .string p5]] W fun e w' => e = .returned (.bool false) ∧ Below W.heap.size W w') : Calls Tryz.prog 14 #[.slice A n c, .agg #[.string p0, .string p1, .string p2, .string p3, .string p4, .string p5], .agg #[.bool fb, .int .i64 k1, .string t1, .string i1, .int .i64 k2, .string t2, .string i2, .int .i64 k3, .string t3, .string i3, .slice none 0 0]] w fun e w' => e = .returned (.tuple #[.bool false, .int .i64 0]) ∧ Below w.heap.size w w' := by
  have HH1 := Aside0.mk H1
  have HH2 := Aside0.mk H2
  have HH3 := Aside0.mk H3
  clear H1 H2 H3
  have HX := Aside0.mk (XO.new w #[.string p0, .string p1, .string p2, .string p3, .string p4, .string p5] #[.bool fb, .int .i64 k1, .string t1, .string i1, .int .i64 k2, .string t2, .string i2, .int .i64 k3, .string t3, .string i3, .slice none 0 0])
  go_enter Tryz.func14, Tryz.ntmps14
  go_upto_region 1 with (fail)
  generalize (w.alloc (.cells #[.string p0, .string p1, .string p2, .string p3, .string p4, .string p5] 44)).alloc (.cells #[.bool fb, .int .i64 k1, .string t1, .string i1, .int .i64 k2, .string t2, .string i2, .int .i64 k3, .string t3, .string i3, .slice none 0 0] 57) = w0 at HX ⊢
  obtain ⟨y0, y1, y2, y3, y4, y5⟩ := c6 HX.out.b0
  obtain ⟨z1, z2, z3, z4, z5, z6, z7, z8, z9, z10⟩ := c11 HX.out.b1
  go_wp2_with (fail)
  clear y0 y1 y2 y3 y4 y5 z1 z2 z3 z4 z5 z6 z7 z8 z9 z10
  refine (HH1.out _ HX.out.be).mono ?_
  rintro e w1 ⟨rfl, hb⟩
  replace HX := Aside0.mk (HX.out.step hb)
  clear hb
  obtain ⟨y0, y1, y2, y3, y4, y5⟩ := c6 HX.out.b0
  obtain ⟨z1, z2, z3, z4, z5, z6, z7, z8, z9, z10⟩ := c11 HX.out.b1
  go_wp2_with (fail)
  clear y0 y1 y2 y3 y4 y5 z1 z2 z3 z4 z5 z6 z7 z8 z9 z10
  refine (HH2.out _ HX.out.be).mono ?_
  rintro e w2 ⟨rfl, hb⟩
  replace HX := Aside0.mk (HX.out.step hb)
  clear hb
  obtain ⟨y0, y1, y2, y3, y4, y5⟩ := c6 HX.out.b0
  obtain ⟨z1, z2, z3, z4, z5, z6, z7, z8, z9, z10⟩ := c11 HX.out.b1
  go_wp2_with (fail)
  clear y0 y1 y2 y3 y4 y5 z1 z2 z3 z4 z5 z6 z7 z8 z9 z10
  refine (HH3.out _ HX.out.be).mono ?_
  rintro e w3 ⟨rfl, hb⟩
  replace HX := Aside0.mk (HX.out.step hb)
  clear hb
  obtain ⟨y0, y1, y2, y3, y4, y5⟩ := c6 HX.out.b0
  obtain ⟨z1, z2, z3, z4, z5, z6, z7, z8, z9, z10⟩ := c11 HX.out.b1
  go_wp2
  go_ret2
  exact ⟨rfl, HX.out.be⟩
set_option maxRecDepth 100000 in
set_option maxHeartbeats 16000000 in
theorem one_ttt (A : Option Addr) (n c : Nat) (p0 p1 p2 p3 p4 p5 : ByteArray) (fb : Bool) (k1 : Int) (t1 i1 : ByteArray) (k2 : Int) (t2 i2 : ByteArray) (k3 : Int) (t3 i3 : ByteArray) (w : World)
    (H1 : ∀ W, Below w.heap.size w W → Calls Tryz.prog 26 #[.slice A n c, .agg #[.int .i64 k1, .string t1, .string i1], .agg #[.string p0, .string p1]] W fun e w' => e = .returned (.bool true) ∧ Below W.heap.size W w')
    (H2 : ∀ W, Below w.heap.size w W → Calls Tryz.prog 26 #[.slice A n c, .agg #[.int .i64 k2, .string t2, .string i2], .agg #[.string p2, .string p3]] W fun e w' => e = .returned (.bool true) ∧ Below W.heap.size W w')
    (H3 : ∀ W, Below w.heap.size w W → Calls Tryz.prog 26 #[.slice A n c, .agg #[.int .i64 k3, .string t3, .string i3], .agg #[.string p4, .string p5]] W fun e w' => e = .returned (.bool true) ∧ Below W.heap.size W w') : Calls Tryz.prog 14 #[.slice A n c, .agg #[.string p0, .string p1, .string p2, .string p3, .string p4, .string p5], .agg #[.bool fb, .int .i64 k1, .string t1, .string i1, .int .i64 k2, .string t2, .string i2, .int .i64 k3, .string t3, .string i3, .slice none 0 0]] w fun e w' => e = .returned (.tuple #[.bool true, .int .i64 0]) ∧ Below w.heap.size w w' := by
  have HH1 := Aside0.mk H1
  have HH2 := Aside0.mk H2
  have HH3 := Aside0.mk H3
  clear H1 H2 H3
  have HX := Aside0.mk (XO.new w #[.string p0, .string p1, .string p2, .string p3, .string p4, .string p5] #[.bool fb, .int .i64 k1, .string t1, .string i1, .int .i64 k2, .string t2, .string i2, .int .i64 k3, .string t3, .string i3, .slice none 0 0])
  go_enter Tryz.func14, Tryz.ntmps14
  go_upto_region 1 with (fail)
  generalize (w.alloc (.cells #[.string p0, .string p1, .string p2, .string p3, .string p4, .string p5] 44)).alloc (.cells #[.bool fb, .int .i64 k1, .string t1, .string i1, .int .i64 k2, .string t2, .string i2, .int .i64 k3, .string t3, .string i3, .slice none 0 0] 57) = w0 at HX ⊢
  obtain ⟨y0, y1, y2, y3, y4, y5⟩ := c6 HX.out.b0
  obtain ⟨z1, z2, z3, z4, z5, z6, z7, z8, z9, z10⟩ := c11 HX.out.b1
  go_wp2_with (fail)
  clear y0 y1 y2 y3 y4 y5 z1 z2 z3 z4 z5 z6 z7 z8 z9 z10
  refine (HH1.out _ HX.out.be).mono ?_
  rintro e w1 ⟨rfl, hb⟩
  replace HX := Aside0.mk (HX.out.step hb)
  clear hb
  obtain ⟨y0, y1, y2, y3, y4, y5⟩ := c6 HX.out.b0
  obtain ⟨z1, z2, z3, z4, z5, z6, z7, z8, z9, z10⟩ := c11 HX.out.b1
  go_wp2_with (fail)
  clear y0 y1 y2 y3 y4 y5 z1 z2 z3 z4 z5 z6 z7 z8 z9 z10
  refine (HH2.out _ HX.out.be).mono ?_
  rintro e w2 ⟨rfl, hb⟩
  replace HX := Aside0.mk (HX.out.step hb)
  clear hb
  obtain ⟨y0, y1, y2, y3, y4, y5⟩ := c6 HX.out.b0
  obtain ⟨z1, z2, z3, z4, z5, z6, z7, z8, z9, z10⟩ := c11 HX.out.b1
  go_wp2_with (fail)
  clear y0 y1 y2 y3 y4 y5 z1 z2 z3 z4 z5 z6 z7 z8 z9 z10
  refine (HH3.out _ HX.out.be).mono ?_
  rintro e w3 ⟨rfl, hb⟩
  replace HX := Aside0.mk (HX.out.step hb)
  clear hb
  obtain ⟨y0, y1, y2, y3, y4, y5⟩ := c6 HX.out.b0
  obtain ⟨z1, z2, z3, z4, z5, z6, z7, z8, z9, z10⟩ := c11 HX.out.b1
  go_wp2
  go_loopw [40] (fun v40 wr => v40 = .int .i64 0 ∧ Aside0 (XO w #[.string p0, .string p1, .string p2, .string p3, .string p4, .string p5] #[.bool fb, .int .i64 k1, .string t1, .string i1, .int .i64 k2, .string t2, .string i2, .int .i64 k3, .string t3, .string i3, .slice none 0 0] wr)) (fun _ _ => 0)
  case atStart => exact ⟨rfl, HX⟩
  case round =>
    obtain ⟨rfl, HX⟩ := hrel
    go_wp2
    go_ret2
    exact ⟨rfl, HX.out.be⟩
end Go.Proofs.YtelibndkkokadaaGreat.DC
namespace Go.Proofs.YtelibndkkokadaaGreat.DC
open Go.RowKit Go.Proofs.YtelibndkkokadaaGreatW.PrintWords Go.Proofs.YtelibndkkokadaaGreatW.PrintLast Go.Proofs.YtelibndkkokadaaGreat.HandV Go.Proofs.YtelibndkkokadaaGreatW.PrintMore
open Go.Proofs.YtelibndkkokadaaGreat.GB
attribute [local go_sem] max2_int min2_int max_two min_two max_three min_three max_four min_four   -- for this text's walks alone
set_option linter.unusedVariables false
set_option linter.unusedSimpArgs false
-- IMPORT .DC1
-- IMPORT .Eb
-- IMPORT Derived.Deep.RegionWith
theorem szN : ((Tryz.prog.info? 79).map (·.size)).isSome = true := by kernel_rfl
theorem cp0 (W : World) (a : Addr) : (Builtin.copy_ #[80, 80] 3 #[.slice (some a) 0 0, .slice none 0 0]).run Tryz.prog W = .ok (goInt 0) W := run_copy_nil _ W _ _ _ 79 a 0 0 Tryz.underlying80 szN
/-- The boxes of All: the request's, the result's, the row's, the answer's, the two sides'. -/
structure XA (w : World) (rw_ ac bc : Array Value) (W : World) : Prop where
  b0 : W.heap[w.heap.size]? = some (.cells #[.string ⟨#[]⟩, .string ⟨#[]⟩, .string ⟨#[]⟩, .string ⟨#[]⟩, .string ⟨#[]⟩, .string ⟨#[]⟩] 44 (0, 0))
  b1 : W.heap[w.heap.size + 1]? = some (.cells #[.bool false, .slice none 0 0, .slice none 0 0] 76 (0, 0))
  b2 : W.heap[w.heap.size + 2]? = some (.cells rw_ 79 (0, 0))
  b3 : W.heap[w.heap.size + 3]? = some (.cells ac 76 (0, 0))
  b4 : W.heap[w.heap.size + 4]? = some (.cells bc 103 (0, 0))
  be : Below w.heap.size w W
theorem XA.step {w W W' : World} {rw_ ac bc : Array Value} (h : XA w rw_ ac bc W) (hb : Below W.heap.size W W') : XA w rw_ ac bc W' := ⟨blk_below h.b0 hb, blk_below h.b1 hb, blk_below h.b2 hb, blk_below h.b3 hb, blk_below h.b4 hb, below_step h.be hb⟩
theorem c3 {W : World} {g : Nat} {t : TypeId} {a0 a1 a2 : Value} (h : W.heap[g]? = some (.cells #[a0, a1, a2] t (0, 0))) : W.cell? ⟨g, 0, none⟩ = some a0 ∧ W.cell? ⟨g, 1, none⟩ = some a1 ∧ W.cell? ⟨g, 2, none⟩ = some a2 := ⟨(blk_cell h 0).trans rfl, (blk_cell h 1).trans rfl, (blk_cell h 2).trans rfl⟩
theorem c2 {W : World} {g : Nat} {t : TypeId} {a0 a1 : Value} (h : W.heap[g]? = some (.cells #[a0, a1] t (0, 0))) : W.cell? ⟨g, 0, none⟩ = some a0 ∧ W.cell? ⟨g, 1, none⟩ = some a1 := ⟨(blk_cell h 0).trans rfl, (blk_cell h 1).trans rfl⟩
theorem bat {W : World} {o : Obj} {k : Nat} (h : W.heap.size = k) : (W.alloc o).heap[k]? = some o := h ▸ blk_new W o
set_option maxRecDepth 100000 in
set_option maxHeartbeats 16000000 in
theorem all_nil (w : World) : Calls Tryz.prog 21 #[.slice none 0 0, .agg #[.string ⟨#[]⟩, .string ⟨#[]⟩, .string ⟨#[]⟩, .string ⟨#[]⟩, .string ⟨#[]⟩, .string ⟨#[]⟩], .slice none 0 0] w fun e w' => e = .returned (.agg #[.bool false, .slice none 0 0, .slice none 0 0]) ∧ Below w.heap.size w w' := by
  have hm := make0
  have hcp := cp0
  have HX : Aside0 (XA w #[] #[.bool false, .slice none 0 0, .slice none 0 0] #[.slice none 0 0, .slice none 0 0] (((((w.alloc (.cells #[.string ⟨#[]⟩, .string ⟨#[]⟩, .string ⟨#[]⟩, .string ⟨#[]⟩, .string ⟨#[]⟩, .string ⟨#[]⟩] 44)).alloc (.cells #[.bool false, .slice none 0 0, .slice none 0 0] 76)).alloc (.cells #[] 79)).alloc (.cells #[.bool false, .slice none 0 0, .slice none 0 0] 76)).alloc (.cells #[.slice none 0 0, .slice none 0 0] 103))) := ⟨⟨blk_alloc (blk_alloc (blk_alloc (blk_alloc (blk_new _ _) _) _) _) _, blk_alloc (blk_alloc (blk_alloc (bat (by simp)) _) _) _, blk_alloc (blk_alloc (bat (by simp)) _) _, blk_alloc (bat (by simp)) _, bat (by simp), below_alloc (below_alloc (below_alloc (below_alloc (below_alloc (Below.refl _ _) _) _) _) _) _⟩⟩
  go_enter Tryz.func21, Tryz.ntmps21
  go_wp2
  generalize ((((w.alloc (.cells #[.string ⟨#[]⟩, .string ⟨#[]⟩, .string ⟨#[]⟩, .string ⟨#[]⟩, .string ⟨#[]⟩, .string ⟨#[]⟩] 44)).alloc (.cells #[.bool false, .slice none 0 0, .slice none 0 0] 76)).alloc (.cells #[] 79)).alloc (.cells #[.bool false, .slice none 0 0, .slice none 0 0] 76)).alloc (.cells #[.slice none 0 0, .slice none 0 0] 103) = w5 at HX ⊢
  clear hm hcp
  go_loopw [23] (fun v23 wr => v23 = .int .i64 0 ∧ Aside0 (XA w #[] #[.bool false, .slice none 0 0, .slice none 0 0] #[.slice none 0 0, .slice none 0 0] wr)) (fun _ _ => 0)
  case atStart => exact ⟨rfl, HX⟩
  case round =>
    clear HX
    obtain ⟨rfl, HX⟩ := hrel
    obtain ⟨a0, a1, a2⟩ := c3 HX.out.b3
    obtain ⟨r0, r1, r2⟩ := c3 HX.out.b1
    obtain ⟨s0, s1⟩ := c2 HX.out.b4
    have f0 := blk_frozen HX.out.b3 0
    have f1 := blk_frozen HX.out.b3 1
    have g0 := blk_frozen HX.out.b1 0
    have g1 := blk_frozen HX.out.b1 1
    have g2 := blk_frozen HX.out.b1 2
    go_wp2
    have HR : Aside0 ((((((wr.setCell ⟨w.heap.size + 3, 1, none⟩ (.slice none 0 0)).setCell ⟨w.heap.size + 3, 0, none⟩ (.bool false)).setCell ⟨w.heap.size + 1, 0, none⟩ (.bool false)).setCell ⟨w.heap.size + 1, 1, none⟩ (.slice none 0 0)).setCell ⟨w.heap.size + 1, 2, none⟩ (.slice none 0 0)).heap[w.heap.size + 1]? = some (.cells #[.bool false, .slice none 0 0, .slice none 0 0] 76 (0, 0))) := ⟨blk_put (cs := #[.bool false, .slice none 0 0, .slice none 0 0]) (cs' := #[.bool false, .slice none 0 0, .slice none 0 0]) (blk_put (cs := #[.bool false, .slice none 0 0, .slice none 0 0]) (cs' := #[.bool false, .slice none 0 0, .slice none 0 0]) (blk_put (cs := #[.bool false, .slice none 0 0, .slice none 0 0]) (cs' := #[.bool false, .slice none 0 0, .slice none 0 0]) (blk_far (blk_far HX.out.b1 (p := ⟨w.heap.size + 3, 1, none⟩) (by show w.heap.size + 1 ≠ w.heap.size + 3; omega) _) (p := ⟨w.heap.size + 3, 0, none⟩) (by show w.heap.size + 1 ≠ w.heap.size + 3; omega) _) 0 _ rfl) 1 _ rfl) 2 _ rfl⟩
    refine bodyPost_ret (results_cell_row rfl _ _ (w.heap.size + 1) 76 _ (0, 0) _ rfl HR.out Tryz.underlying76 rfl (by kernel_rfl)) rfl ?_
    exact ⟨rfl, ((((HX.out.be.setCell (p := ⟨w.heap.size + 3, 1, none⟩) (Nat.le_add_right _ _) _).setCell (p := ⟨w.heap.size + 3, 0, none⟩) (Nat.le_add_right _ _) _).setCell (p := ⟨w.heap.size + 1, 0, none⟩) (Nat.le_add_right _ _) _).setCell (p := ⟨w.heap.size + 1, 1, none⟩) (Nat.le_add_right _ _) _).setCell (p := ⟨w.heap.size + 1, 2, none⟩) (Nat.le_add_right _ _) _⟩
end Go.Proofs.YtelibndkkokadaaGreat.DC
namespace Go.Proofs.YtelibndkkokadaaGreat.DC
open Go.RowKit Go.Proofs.YtelibndkkokadaaGreatW.PrintWords Go.Proofs.YtelibndkkokadaaGreatW.PrintLast Go.Proofs.YtelibndkkokadaaGreat.HandV Go.Proofs.YtelibndkkokadaaGreatW.PrintMore
open Go.Proofs.YtelibndkkokadaaGreat.GB
attribute [local go_sem] max2_int min2_int max_two min_two max_three min_three max_four min_four   -- for this text's walks alone
set_option linter.unusedVariables false
set_option linter.unusedSimpArgs false
-- IMPORT .DC2
-- IMPORT Derived.Deep.RegionWith
/-- The boxes of All at one policy. -/
structure XA1 (w : World) (g2 g3 g4 : Nat) (bc : Array Value) (W : World) : Prop where
  b0 : W.heap[w.heap.size]? = some (.cells #[.string ⟨#[]⟩, .string ⟨#[]⟩, .string ⟨#[]⟩, .string ⟨#[]⟩, .string ⟨#[]⟩, .string ⟨#[]⟩] 44 (0, 0))
  b1 : W.heap[w.heap.size + 1]? = some (.cells #[.bool false, .slice none 0 0, .slice none 0 0] 76 (0, 0))
  b2 : W.heap[g2]? = some (.cells #[.string ⟨#[112]⟩, .bool false, .int .i64 0, .string ⟨#[]⟩, .string ⟨#[]⟩, .int .i64 0, .string ⟨#[]⟩, .string ⟨#[]⟩, .int .i64 0, .string ⟨#[]⟩, .string ⟨#[]⟩, .slice none 0 0] 79 (0, 0))
  b3 : W.heap[g3]? = some (.cells #[.bool false, .slice none 0 0, .slice none 0 0] 76 (0, 0))
  b4 : W.heap[g4]? = some (.cells bc 103 (0, 0))
  be : Below w.heap.size w W
theorem XA1.step {w W W' : World} {g2 g3 g4 : Nat} {bc : Array Value} (h : XA1 w g2 g3 g4 bc W) (hb : Below W.heap.size W W') : XA1 w g2 g3 g4 bc W' := ⟨blk_below h.b0 hb, blk_below h.b1 hb, blk_below h.b2 hb, blk_below h.b3 hb, blk_below h.b4 hb, below_step h.be hb⟩
theorem sz12 : (Tryz.prog.info? 79).map (·.size) = some 12 := by kernel_rfl
theorem copy1 (g : Nat) (w : World) (hk : w.heap[g]? = some (.cells #[.string ⟨#[112]⟩, .bool false, .int .i64 0, .string ⟨#[]⟩, .string ⟨#[]⟩, .int .i64 0, .string ⟨#[]⟩, .string ⟨#[]⟩, .int .i64 0, .string ⟨#[]⟩, .string ⟨#[]⟩, .slice none 0 0] 79 (0, 0))) : ∃ w4, (Builtin.copy_ #[80, 80] 3 #[.slice (some ⟨w.heap.size + 1 + 1, 0, none⟩) 1 1, .slice (some ⟨g, 0, none⟩) 1 1]).run Tryz.prog (((w.alloc (.cells #[.string ⟨#[]⟩, .string ⟨#[]⟩, .string ⟨#[]⟩, .string ⟨#[]⟩, .string ⟨#[]⟩, .string ⟨#[]⟩] 44)).alloc (.cells #[.bool false, .slice none 0 0, .slice none 0 0] 76)).alloc (.cells #[.string ⟨#[]⟩, .bool false, .int .i64 0, .string ⟨#[]⟩, .string ⟨#[]⟩, .int .i64 0, .string ⟨#[]⟩, .string ⟨#[]⟩, .int .i64 0, .string ⟨#[]⟩, .string ⟨#[]⟩, .slice none 0 0] 79)) = .ok (goInt 1) w4 ∧ w4.heap[w.heap.size]? = some (.cells #[.string ⟨#[]⟩, .string ⟨#[]⟩, .string ⟨#[]⟩, .string ⟨#[]⟩, .string ⟨#[]⟩, .string ⟨#[]⟩] 44 (0, 0)) ∧ w4.heap[w.heap.size + 1]? = some (.cells #[.bool false, .slice none 0 0, .slice none 0 0] 76 (0, 0)) ∧ w4.heap[w.heap.size + 2]? = some (.cells #[.string ⟨#[112]⟩, .bool false, .int .i64 0, .string ⟨#[]⟩, .string ⟨#[]⟩, .int .i64 0, .string ⟨#[]⟩, .string ⟨#[]⟩, .int .i64 0, .string ⟨#[]⟩, .string ⟨#[]⟩, .slice none 0 0] 79 (0, 0)) ∧ Below w.heap.size w w4 := by
  have hz : (((w.alloc (.cells #[.string ⟨#[]⟩, .string ⟨#[]⟩, .string ⟨#[]⟩, .string ⟨#[]⟩, .string ⟨#[]⟩, .string ⟨#[]⟩] 44)).alloc (.cells #[.bool false, .slice none 0 0, .slice none 0 0] 76)).alloc (.cells #[.string ⟨#[]⟩, .bool false, .int .i64 0, .string ⟨#[]⟩, .string ⟨#[]⟩, .int .i64 0, .string ⟨#[]⟩, .string ⟨#[]⟩, .int .i64 0, .string ⟨#[]⟩, .string ⟨#[]⟩, .slice none 0 0] 79)).heap[w.heap.size + 2]? = some (.cells #[.string ⟨#[]⟩, .bool false, .int .i64 0, .string ⟨#[]⟩, .string ⟨#[]⟩, .int .i64 0, .string ⟨#[]⟩, .string ⟨#[]⟩, .int .i64 0, .string ⟨#[]⟩, .string ⟨#[]⟩, .slice none 0 0] 79 (0, 0)) := bat (by simp)
  have h0 : (((w.alloc (.cells #[.string ⟨#[]⟩, .string ⟨#[]⟩, .string ⟨#[]⟩, .string ⟨#[]⟩, .string ⟨#[]⟩, .string ⟨#[]⟩] 44)).alloc (.cells #[.bool false, .slice none 0 0, .slice none 0 0] 76)).alloc (.cells #[.string ⟨#[]⟩, .bool false, .int .i64 0, .string ⟨#[]⟩, .string ⟨#[]⟩, .int .i64 0, .string ⟨#[]⟩, .string ⟨#[]⟩, .int .i64 0, .string ⟨#[]⟩, .string ⟨#[]⟩, .slice none 0 0] 79)).heap[w.heap.size]? = some (.cells #[.string ⟨#[]⟩, .string ⟨#[]⟩, .string ⟨#[]⟩, .string ⟨#[]⟩, .string ⟨#[]⟩, .string ⟨#[]⟩] 44 (0, 0)) := blk_alloc (blk_alloc (blk_new _ _) _) _
  have h1 : (((w.alloc (.cells #[.string ⟨#[]⟩, .string ⟨#[]⟩, .string ⟨#[]⟩, .string ⟨#[]⟩, .string ⟨#[]⟩, .string ⟨#[]⟩] 44)).alloc (.cells #[.bool false, .slice none 0 0, .slice none 0 0] 76)).alloc (.cells #[.string ⟨#[]⟩, .bool false, .int .i64 0, .string ⟨#[]⟩, .string ⟨#[]⟩, .int .i64 0, .string ⟨#[]⟩, .string ⟨#[]⟩, .int .i64 0, .string ⟨#[]⟩, .string ⟨#[]⟩, .slice none 0 0] 79)).heap[w.heap.size + 1]? = some (.cells #[.bool false, .slice none 0 0, .slice none 0 0] 76 (0, 0)) := blk_alloc (bat (by simp)) _
  have hs : (((w.alloc (.cells #[.string ⟨#[]⟩, .string ⟨#[]⟩, .string ⟨#[]⟩, .string ⟨#[]⟩, .string ⟨#[]⟩, .string ⟨#[]⟩] 44)).alloc (.cells #[.bool false, .slice none 0 0, .slice none 0 0] 76)).alloc (.cells #[.string ⟨#[]⟩, .bool false, .int .i64 0, .string ⟨#[]⟩, .string ⟨#[]⟩, .int .i64 0, .string ⟨#[]⟩, .string ⟨#[]⟩, .int .i64 0, .string ⟨#[]⟩, .string ⟨#[]⟩, .slice none 0 0] 79)).heap[g]? = some (.cells #[.string ⟨#[112]⟩, .bool false, .int .i64 0, .string ⟨#[]⟩, .string ⟨#[]⟩, .int .i64 0, .string ⟨#[]⟩, .string ⟨#[]⟩, .int .i64 0, .string ⟨#[]⟩, .string ⟨#[]⟩, .slice none 0 0] 79 (0, 0)) := blk_alloc (blk_alloc (blk_alloc hk _) _) _
  have hb : Below w.heap.size w (((w.alloc (.cells #[.string ⟨#[]⟩, .string ⟨#[]⟩, .string ⟨#[]⟩, .string ⟨#[]⟩, .string ⟨#[]⟩, .string ⟨#[]⟩] 44)).alloc (.cells #[.bool false, .slice none 0 0, .slice none 0 0] 76)).alloc (.cells #[.string ⟨#[]⟩, .bool false, .int .i64 0, .string ⟨#[]⟩, .string ⟨#[]⟩, .int .i64 0, .string ⟨#[]⟩, .string ⟨#[]⟩, .int .i64 0, .string ⟨#[]⟩, .string ⟨#[]⟩, .slice none 0 0] 79)) := below_alloc (below_alloc (below_alloc (Below.refl _ _) _) _) _
  generalize ((w.alloc (.cells #[.string ⟨#[]⟩, .string ⟨#[]⟩, .string ⟨#[]⟩, .string ⟨#[]⟩, .string ⟨#[]⟩, .string ⟨#[]⟩] 44)).alloc (.cells #[.bool false, .slice none 0 0, .slice none 0 0] 76)).alloc (.cells #[.string ⟨#[]⟩, .bool false, .int .i64 0, .string ⟨#[]⟩, .string ⟨#[]⟩, .int .i64 0, .string ⟨#[]⟩, .string ⟨#[]⟩, .int .i64 0, .string ⟨#[]⟩, .string ⟨#[]⟩, .slice none 0 0] 79) = W3 at hz h0 h1 hs hb ⊢
  refine ⟨W3.setCells (w.heap.size + 2) 0 [.string ⟨#[112]⟩, .bool false, .int .i64 0, .string ⟨#[]⟩, .string ⟨#[]⟩, .int .i64 0, .string ⟨#[]⟩, .string ⟨#[]⟩, .int .i64 0, .string ⟨#[]⟩, .string ⟨#[]⟩, .slice none 0 0], GT.run_copy_wideT W3 _ _ _ 79 12 (w.heap.size + 2) 0 1 1 ⟨g, 0, none⟩ 1 1 [.string ⟨#[112]⟩, .bool false, .int .i64 0, .string ⟨#[]⟩, .string ⟨#[]⟩, .int .i64 0, .string ⟨#[]⟩, .string ⟨#[]⟩, .int .i64 0, .string ⟨#[]⟩, .string ⟨#[]⟩, .slice none 0 0] Tryz.underlying80 sz12 rfl ?_ ?_ ?_ ?_, ?_, ?_, ?_, ?_⟩
  · intro j v hv
    have h2 := blk_cell hs j
    rw [show (⟨g, 0, none⟩ : Addr).add j = ⟨g, j, none⟩ from by simp [Addr.add]; omega]
    rw [h2]
    simpa using hv
  · intro j hj
    have h2 := blk_cell hz j
    rw [Nat.zero_add, h2]
    have h3 : j < 12 := hj
    simp
    omega
  · intro j hj
    exact blk_frozen hz (0 + j)
  · intro v hv
    simp only [List.mem_cons, List.not_mem_nil, or_false] at hv
    rcases hv with rfl | rfl | rfl | rfl | rfl | rfl | rfl | rfl | rfl | rfl | rfl | rfl <;> rfl
  · exact (GT.setCells_far _ _ _ _ _ (by omega)).trans h0
  · exact (GT.setCells_far _ _ _ _ _ (by omega)).trans h1
  · have := GT.setCells_heapT (w.heap.size + 2) 79 (0, 0) [.string ⟨#[112]⟩, .bool false, .int .i64 0, .string ⟨#[]⟩, .string ⟨#[]⟩, .int .i64 0, .string ⟨#[]⟩, .string ⟨#[]⟩, .int .i64 0, .string ⟨#[]⟩, .string ⟨#[]⟩, .slice none 0 0] 0 W3 [.string ⟨#[]⟩, .bool false, .int .i64 0, .string ⟨#[]⟩, .string ⟨#[]⟩, .int .i64 0, .string ⟨#[]⟩, .string ⟨#[]⟩, .int .i64 0, .string ⟨#[]⟩, .string ⟨#[]⟩, .slice none 0 0] hz (by decide)
    simpa using this
  · exact hb.trans (GT.below_cellsT (w.heap.size + 2) (by omega) _ 0 W3)
end Go.Proofs.YtelibndkkokadaaGreat.DC
namespace Go.Proofs.YtelibndkkokadaaGreat.DC
open Go.RowKit Go.Proofs.YtelibndkkokadaaGreatW.PrintWords Go.Proofs.YtelibndkkokadaaGreatW.PrintLast Go.Proofs.YtelibndkkokadaaGreat.HandV Go.Proofs.YtelibndkkokadaaGreatW.PrintMore
open Go.Proofs.YtelibndkkokadaaGreat.GB
attribute [local go_sem] max2_int min2_int max_two min_two max_three min_three max_four min_four   -- for this text's walks alone
set_option linter.unusedVariables false
set_option linter.unusedSimpArgs false
-- IMPORT .DC3
-- IMPORT .Sqz
-- IMPORT Derived.Deep.RegionWith
theorem c12 {W : World} {g : Nat} {t : TypeId} {a0 a1 a2 a3 a4 a5 a6 a7 a8 a9 a10 a11 : Value} (h : W.heap[g]? = some (.cells #[a0, a1, a2, a3, a4, a5, a6, a7, a8, a9, a10, a11] t (0, 0))) : W.cell? ⟨g, 0, none⟩ = some a0 ∧ W.cell? ⟨g, 1, none⟩ = some a1 ∧ W.cell? ⟨g, 2, none⟩ = some a2 ∧ W.cell? ⟨g, 3, none⟩ = some a3 ∧ W.cell? ⟨g, 4, none⟩ = some a4 ∧ W.cell? ⟨g, 5, none⟩ = some a5 ∧ W.cell? ⟨g, 6, none⟩ = some a6 ∧ W.cell? ⟨g, 7, none⟩ = some a7 ∧ W.cell? ⟨g, 8, none⟩ = some a8 ∧ W.cell? ⟨g, 9, none⟩ = some a9 ∧ W.cell? ⟨g, 10, none⟩ = some a10 ∧ W.cell? ⟨g, 11, none⟩ = some a11 :=
  ⟨(blk_cell h 0).trans rfl, (blk_cell h 1).trans rfl, (blk_cell h 2).trans rfl, (blk_cell h 3).trans rfl, (blk_cell h 4).trans rfl, (blk_cell h 5).trans rfl, (blk_cell h 6).trans rfl, (blk_cell h 7).trans rfl, (blk_cell h 8).trans rfl, (blk_cell h 9).trans rfl, (blk_cell h 10).trans rfl, (blk_cell h 11).trans rfl⟩
def ra15_T : Bool × List (List Nat × List Nat) := (true, [([], []), ([], []), ([1], [1]), ([2], [2]), ([], []), ([4], [4]), ([5], [5]), ([3, 6], [3, 6]), ([0, 0, 1, 2, 3, 4, 5, 6, 7], [0]), ([8, 7, 7, 0, 1, 2, 3, 4, 5, 6, 7], [7, 8])])
def ra15_B : List Nat := [0, 0, 2, 6, 0, 16, 48, 126, 255, 511]
theorem ra15_tab : rtab .any (opsOf Tryz.f21 15) = ra15_T := by kernel_rfl
theorem ra15_bits : waitsOk ra15_T.2 ra15_B = true := by kernel_rfl
set_option maxRecDepth 100000 in
set_option maxHeartbeats 16000000 in
theorem all_one (g : Nat) (w : World) (hk : w.heap[g]? = some (.cells #[.string ⟨#[112]⟩, .bool false, .int .i64 0, .string ⟨#[]⟩, .string ⟨#[]⟩, .int .i64 0, .string ⟨#[]⟩, .string ⟨#[]⟩, .int .i64 0, .string ⟨#[]⟩, .string ⟨#[]⟩, .slice none 0 0] 79 (0, 0))) : Calls Tryz.prog 21 #[.slice none 0 0, .agg #[.string ⟨#[]⟩, .string ⟨#[]⟩, .string ⟨#[]⟩, .string ⟨#[]⟩, .string ⟨#[]⟩, .string ⟨#[]⟩], .slice (some ⟨g, 0, none⟩) 1 1] w fun e w' => ∃ (A : Option Addr) (c : Nat), e = .returned (.agg #[.bool true, .slice A 1 c, .slice none 0 0]) ∧ Kd.R Kd.string 9 w' w.heap.size (fun q => w.heap.size ≤ q) (.slice A 1 c) [⟨#[112]⟩] ∧ Below w.heap.size w w' := by
  have hm := make1
  obtain ⟨w4, hcp, hb0, hb1, hb2, hbe⟩ := copy1 g w hk
  have HX : Aside0 (XA1 w (w.heap.size + 2) w4.heap.size (w4.heap.size + 1) #[.slice none 0 0, .slice none 0 0] ((w4.alloc (.cells #[.bool false, .slice none 0 0, .slice none 0 0] 76)).alloc (.cells #[.slice none 0 0, .slice none 0 0] 103))) := ⟨⟨blk_alloc (blk_alloc hb0 _) _, blk_alloc (blk_alloc hb1 _) _, blk_alloc (blk_alloc hb2 _) _, blk_alloc (blk_new _ _) _, bnew2 _ _ _, below_alloc (below_alloc hbe _) _⟩⟩
  have hz4 : w.heap.size + 3 ≤ w4.heap.size := by have := blk_lt hb2; omega
  clear hb0 hb1 hb2 hbe hk
  unfold zNC at hm
  go_enter Tryz.func21, Tryz.ntmps21
  go_wp2
  generalize (w4.alloc (.cells #[.bool false, .slice none 0 0, .slice none 0 0] 76)).alloc (.cells #[.slice none 0 0, .slice none 0 0] 103) = w5 at HX ⊢
  have hn4 : w4.heap.size < w4.heap.size + 1 := Nat.lt_succ_self _
  generalize w4.heap.size + 1 = g4 at HX hn4 ⊢
  generalize w4.heap.size = g3 at HX hz4 hn4 ⊢
  have hz2 : w.heap.size + 1 < w.heap.size + 1 + 1 := Nat.lt_succ_self _
  have hz3 : w.heap.size + 1 + 1 < g3 := by omega
  replace HX : Aside0 (XA1 w (w.heap.size + 1 + 1) g3 g4 #[.slice none 0 0, .slice none 0 0] w5) := HX
  generalize w.heap.size + 1 + 1 = g2 at HX hz2 hz3 ⊢
  clear hm hcp
  go_loopw [23] (fun v23 wr => (v23 = .int .i64 0 ∧ Aside0 (XA1 w g2 g3 g4 #[.slice none 0 0, .slice none 0 0] wr)) ∨ (v23 = .int .i64 1 ∧ ∃ (A : Option Addr) (c : Nat), Aside0 (XA1 w g2 g3 g4 #[.slice A 1 c, .slice none 0 0] wr) ∧ Aside0 (Kd.R Kd.string 9 wr w.heap.size (fun q => g4 < q) (.slice A 1 c) [⟨#[112]⟩]))) (fun v23 _ => 1 - (intOf v23).toNat)
  case atStart => exact .inl ⟨rfl, HX⟩
  case round =>
    clear HX
    rcases hrel with ⟨rfl, HX⟩ | ⟨rfl, A, c, HX, HA⟩
    · obtain ⟨q0, q1, q2, q3, q4, q5, q6, q7, q8, q9, q10, q11⟩ := c12 HX.out.b2
      obtain ⟨r0, r1, r2, r3, r4, r5⟩ := c6 HX.out.b0
      have hs0 := blk_lt HX.out.b0
      have hg11 := blk_lt HX.out.b4
      have hs2 := blk_lt HX.out.b2
      go_upto_region 15 with (go_at_call 14; refine (one_ttt none 0 0 _ _ _ _ _ _ _ _ _ _ _ _ _ _ _ _ _ (fun W _ => scope_any none 0 0 _ _ _ _ W) (fun W _ => scope_any none 0 0 _ _ _ _ W) (fun W _ => scope_any none 0 0 _ _ _ _ W)).mono ?_; rintro e w6 ⟨rfl, hb⟩; have HF : Aside0 (w6.heap[wr.heap.size]? = some (.cells #[.string ⟨#[112]⟩, .bool false, .int .i64 0, .string ⟨#[]⟩, .string ⟨#[]⟩, .int .i64 0, .string ⟨#[]⟩, .string ⟨#[]⟩, .int .i64 0, .string ⟨#[]⟩, .string ⟨#[]⟩, .slice none 0 0] 79 (0, 0))) := ⟨blk_below (blk_new _ _) hb⟩; replace HX := Aside0.mk (HX.out.step (below_step (below_alloc (Below.refl _ _) _) hb)); clear hb q0 q1 q2 q3 q4 q5 q6 q7 q8 q9 q10 q11 r0 r1 r2 r3 r4 r5; obtain ⟨q0, q1, q2, q3, q4, q5, q6, q7, q8, q9, q10, q11⟩ := c12 HF.out)
      clear q0 q1 q2 q3 q4 q5 q6 q7 q8 q9 q10 q11
      generalize wr.heap.size = g11 at HF hg11 ⊢
      have HK : Aside0 (∀ W, XA1 w g2 g3 g4 #[.slice none 0 0, .slice none 0 0] W → W.heap[g11]? = some (.cells #[.string ⟨#[112]⟩, .bool false, .int .i64 0, .string ⟨#[]⟩, .string ⟨#[]⟩, .int .i64 0, .string ⟨#[]⟩, .string ⟨#[]⟩, .int .i64 0, .string ⟨#[]⟩, .string ⟨#[]⟩, .slice none 0 0] 79 (0, 0)) → W.cell? ⟨g4, 0, none⟩ = some (.slice none 0 0) ∧ W.cell? ⟨g11, 0, none⟩ = some (.string ⟨#[112]⟩)) := ⟨fun W h1 h2 => ⟨(blk_cell h1.b4 0).trans rfl, (blk_cell h2 0).trans rfl⟩⟩
      replace HX : Aside0 (XA1 w g2 g3 g4 #[.slice none 0 0, .slice none 0 0] w6.drew) := ⟨HX.out.step (below_drew1 (Below.refl _ _))⟩
      replace HF : Aside0 (w6.drew.heap[g11]? = some (.cells #[.string ⟨#[112]⟩, .bool false, .int .i64 0, .string ⟨#[]⟩, .string ⟨#[]⟩, .int .i64 0, .string ⟨#[]⟩, .string ⟨#[]⟩, .int .i64 0, .string ⟨#[]⟩, .string ⟨#[]⟩, .slice none 0 0] 79 (0, 0))) := ⟨HF.out⟩
      refine start_ (n := 10) (S := fun W => W.cell? ⟨g4, 0, none⟩ = some (.slice none 0 0) ∧ W.cell? ⟨g11, 0, none⟩ = some (.string ⟨#[112]⟩)) (ds := [9]) #[false, false, false, false, false, false, false, false, false, false] (by kernel_rfl) rfl rfl (HK.out _ HX.out HF.out) (fun hHeld => ?_)
      refine with_tabW ra15_tab ra15_bits (fun HT_ HW_ => ?_)
      generalize w6.drew = wd at HX HF hHeld ⊢
      refine pS_ 0 50 (fa 10 1) HT_ ?_
      refine pS_ 1 51 (fa 10 3) HT_ ?_
      refine pS_ 2 52 (fa 10 7) HT_ ?_
      refine pS_ 4 54 (fa 10 23) HT_ ?_
      refine tS_ 3 53 (fa 10 31) HT_ HW_ hHeld ?_
      refine tS_ 5 55 (fa 10 63) HT_ HW_ hHeld ?_
      refine one_ (i := 6) (N := some 56) #[true, true, true, true, true, true, true, false, false, false] rfl rfl (one_of HT_.out (by kernel_rfl)) (by decide) (fun K hK => ?_)
      refine value_ (w1 := wd.alloc (.cells #[.string ⟨#[112]⟩] 9)) (v := .slice (some ⟨wd.heap.size, 0, none⟩) 1 1) (by rfl) rfl ?_ ?_
      · first | (go_simp; done) | (go_simp; rfl) | (go_simp; constructor <;> rfl)
      refine hK.out _ _ (HK.out _ (HX.out.step (below_alloc (Below.refl _ _) _)) (blk_alloc HF.out _)) (fun hHeld => ?_)
      clear hK K
      refine norm_ (a' := ?_) ?_ ?_
      rotate_left
      · show Act.put _ (some 56) _ = _
        simp only [Act.put, List.setIfInBounds_toArray, List.set_cons_zero, List.set_cons_succ, i64_w, i32_w]
        rfl
      refine one_ (i := 7) (N := some 57) #[true, true, true, true, true, true, true, true, false, false] rfl rfl (one_of HT_.out (by kernel_rfl)) (by decide) (fun K hK => ?_)
      refine Kd.R_append_step Kd.string (w0 := w) w.heap.size (by rfl) (.tmp 53) (.tmp 56) 74 9 (.string ⟨#[]⟩) 16 rfl Tryz.underlying74 info9 rfl (by decide) (by omega) (.slice none 0 0) [] ⟨#[112]⟩ [.string ⟨#[112]⟩] (fun q => g4 < q) (fun _ => False) rfl rfl ?aP (fun _ hk => hk.elim) ?aF ?aO ?aB ?aS ?aL ?_
      (case aP => exact rfl)
      (case aF => intro q hq; have h1 := blk_lt HX.out.b4; omega)
      (case aO => exact Kd.R_nil _ _ _ _ _)
      (case aB => exact HX.out.be)
      (case aS => exact HX.out.be.size)
      (case aL => decide)
      intro v7 w7 ho hb hg hat
      obtain ⟨A, c, rfl⟩ := Kd.R_slice ho
      have HX7 : Aside0 (XA1 w g2 g3 g4 #[.slice none 0 0, .slice none 0 0] w7) := ⟨⟨blk_grown HX.out.b0 hg (by simp [Value.ownBlock]), blk_grown HX.out.b1 hg (by simp [Value.ownBlock]), blk_grown HX.out.b2 hg (by simp [Value.ownBlock]), blk_grown HX.out.b3 hg (by simp [Value.ownBlock]), blk_grown HX.out.b4 hg (by simp [Value.ownBlock]), hb⟩⟩
      have HF7 : Aside0 (w7.heap[g11]? = some (.cells #[.string ⟨#[112]⟩, .bool false, .int .i64 0, .string ⟨#[]⟩, .string ⟨#[]⟩, .int .i64 0, .string ⟨#[]⟩, .string ⟨#[]⟩, .int .i64 0, .string ⟨#[]⟩, .string ⟨#[]⟩, .slice none 0 0] 79 (0, 0))) := ⟨blk_grown HF.out hg (by simp [Value.ownBlock])⟩
      have HO : Aside0 (Kd.R Kd.string 9 w7 w.heap.size (fun q => g4 < q) (.slice A 1 c) [⟨#[112]⟩]) := ⟨ho⟩
      clear ho hb hg hat HX HF
      refine hK.out _ _ (HK.out _ HX7.out HF7.out) (fun hHeld => ?_)
      clear hK K
      refine norm_ (a' := ?_) ?_ ?_
      rotate_left
      · show Act.put _ (some 57) _ = _
        simp only [Act.put, List.setIfInBounds_toArray, List.set_cons_zero, List.set_cons_succ, i64_w, i32_w]
        rfl
      refine pS_ 8 58 (fa 10 511) HT_ ?_
      refine last_ (i := 9) (N := none) #[true, true, true, true, true, true, true, true, true, true] rfl rfl (one_of HT_.out (by kernel_rfl)) (by decide) (fun K hK => ?_)
      have y0 : w7.cell? ⟨g4, 0, none⟩ = some (.slice none 0 0) := (blk_cell HX7.out.b4 0).trans rfl
      have y1 := blk_frozen HX7.out.b4 0
      refine skip_ (w1 := ?_) (by rfl) rfl ?_ ?_
      rotate_left
      · go_simp
        rfl
      refine hK.out _ _ ?_
      clear hK K y0 y1
      refine done_ (done_of HT_.out (by kernel_rfl)) ?_
      have HX8 : Aside0 (XA1 w g2 g3 g4 #[.slice A 1 c, .slice none 0 0] (w7.setCell ⟨g4, 0, none⟩ (.slice A 1 c))) := ⟨⟨blk_far HX7.out.b0 (p := ⟨g4, 0, none⟩) (by show w.heap.size ≠ g4; omega) _, blk_far HX7.out.b1 (p := ⟨g4, 0, none⟩) (by show w.heap.size + 1 ≠ g4; omega) _, blk_far HX7.out.b2 (p := ⟨g4, 0, none⟩) (by show g2 ≠ g4; omega) _, blk_far HX7.out.b3 (p := ⟨g4, 0, none⟩) (by show g3 ≠ g4; omega) _, blk_put (cs := #[.slice none 0 0, .slice none 0 0]) (cs' := #[.slice A 1 c, .slice none 0 0]) HX7.out.b4 0 _ rfl, HX7.out.be.setCell (p := ⟨g4, 0, none⟩) (by show w.heap.size ≤ g4; omega) _⟩⟩
      have HR8 : Aside0 (Kd.R Kd.string 9 (w7.setCell ⟨g4, 0, none⟩ (.slice A 1 c)) w.heap.size (fun q => g4 < q) (.slice A 1 c) [⟨#[112]⟩]) := ⟨Kd.R_far (p := ⟨g4, 0, none⟩) HO.out (fun k hk => by show k ≠ g4; omega) _⟩
      try go_wp2
      go_roundw
      case rel => exact .inr ⟨by go_num, A, c, HX8, HR8⟩
      case measure => simp [intOf]
    · obtain ⟨a0, a1, a2⟩ := c3 HX.out.b3
      obtain ⟨r0, r1, r2⟩ := c3 HX.out.b1
      obtain ⟨s0, s1⟩ := c2 HX.out.b4
      have f0 := blk_frozen HX.out.b3 0
      have f1 := blk_frozen HX.out.b3 1
      have m0 := blk_frozen HX.out.b1 0
      have m1 := blk_frozen HX.out.b1 1
      have m2 := blk_frozen HX.out.b1 2
      go_wp2
      have HR : Aside0 ((((((wr.setCell ⟨g3, 1, none⟩ (.slice A 1 c)).setCell ⟨g3, 0, none⟩ (.bool true)).setCell ⟨w.heap.size + 1, 0, none⟩ (.bool true)).setCell ⟨w.heap.size + 1, 1, none⟩ (.slice A 1 c)).setCell ⟨w.heap.size + 1, 2, none⟩ (.slice none 0 0)).heap[w.heap.size + 1]? = some (.cells #[.bool true, .slice A 1 c, .slice none 0 0] 76 (0, 0))) := ⟨blk_put (cs := #[.bool true, .slice A 1 c, .slice none 0 0]) (cs' := #[.bool true, .slice A 1 c, .slice none 0 0]) (blk_put (cs := #[.bool true, .slice none 0 0, .slice none 0 0]) (cs' := #[.bool true, .slice A 1 c, .slice none 0 0]) (blk_put (cs := #[.bool false, .slice none 0 0, .slice none 0 0]) (cs' := #[.bool true, .slice none 0 0, .slice none 0 0]) (blk_far (blk_far HX.out.b1 (p := ⟨g3, 1, none⟩) (by show w.heap.size + 1 ≠ g3; omega) _) (p := ⟨g3, 0, none⟩) (by show w.heap.size + 1 ≠ g3; omega) _) 0 _ rfl) 1 _ rfl) 2 _ rfl⟩
      refine bodyPost_ret (results_cell_row rfl _ _ (w.heap.size + 1) 76 _ (0, 0) _ rfl HR.out Tryz.underlying76 rfl (by kernel_rfl)) rfl ?_
      have n3 : ∀ k, g4 < k → k ≠ g3 := fun k hk => by omega
      have n1 : ∀ k, g4 < k → k ≠ w.heap.size + 1 := fun k hk => by omega
      exact ⟨A, c, rfl, Kd.R_mono (Kd.R_far (p := ⟨w.heap.size + 1, 2, none⟩) (Kd.R_far (p := ⟨w.heap.size + 1, 1, none⟩) (Kd.R_far (p := ⟨w.heap.size + 1, 0, none⟩) (Kd.R_far (p := ⟨g3, 0, none⟩) (Kd.R_far (p := ⟨g3, 1, none⟩) HA.out n3 _) n3 _) n1 _) n1 _) n1 _) (fun k hk => by omega), ((((HX.out.be.setCell (p := ⟨g3, 1, none⟩) (by show w.heap.size ≤ g3; omega) _).setCell (p := ⟨g3, 0, none⟩) (by show w.heap.size ≤ g3; omega) _).setCell (p := ⟨w.heap.size + 1, 0, none⟩) (Nat.le_add_right _ _) _).setCell (p := ⟨w.heap.size + 1, 1, none⟩) (Nat.le_add_right _ _) _).setCell (p := ⟨w.heap.size + 1, 2, none⟩) (Nat.le_add_right _ _) _⟩
end Go.Proofs.YtelibndkkokadaaGreat.DC
namespace Go.Proofs.YtelibndkkokadaaGreat.DC
open Go.RowKit Go.Proofs.YtelibndkkokadaaGreatW.PrintWords Go.Proofs.YtelibndkkokadaaGreatW.PrintLast Go.Proofs.YtelibndkkokadaaGreat.HandV Go.Proofs.YtelibndkkokadaaGreatW.PrintMore
open Go.Proofs.YtelibndkkokadaaGreat.GB
attribute [local go_sem] max2_int min2_int max_two min_two max_three min_three max_four min_four   -- for this text's walks alone
set_option linter.unusedVariables false
set_option linter.unusedSimpArgs false
-- IMPORT .DC4
-- IMPORT .Sqz
set_option maxRecDepth 100000 in
set_option maxHeartbeats 16000000 in
theorem known14_calls (w : World) : Calls Tryz.prog 10 #[] w fun e w' => e = .returned (.bool true) ∧ Below w.heap.size w w' := by
  go_enter Tryz.func10, Tryz.ntmps10
  go_upto_region 2 with (go_at_call 21; refine (all_nil _).mono ?_; rintro e w1 ⟨rfl, hb⟩; have HB := Aside0.mk hb; clear hb)
  have HB2 : Aside0 (Below w.heap.size w (w1.alloc (.cells #[.bool false, .slice none 0 0, .slice none 0 0] 76))) := ⟨below_alloc HB.out _⟩
  have HA : Aside0 ((w1.alloc (.cells #[.bool false, .slice none 0 0, .slice none 0 0] 76)).heap[w1.heap.size]? = some (.cells #[.bool false, .slice none 0 0, .slice none 0 0] 76 (0, 0))) := ⟨blk_new _ _⟩
  generalize w1.alloc (.cells #[.bool false, .slice none 0 0, .slice none 0 0] 76) = w2 at HB2 HA ⊢
  generalize w1.heap.size = g1 at HA ⊢
  clear HB
  go_upto_region 3 with (go_at_call 21; refine (all_one _ _ (blk_new _ _)).mono ?_; rintro e w3 ⟨A, c, rfl, hR, hb⟩; have HR := Aside0.mk hR; have HB3 := Aside0.mk (below_step HB2.out (below_step (below_alloc (Below.refl _ _) _) hb)); have HA3 := Aside0.mk (blk_below (blk_alloc HA.out _) hb); clear hR hb)
  have HC := Aside0.mk (Kd.R_reads' HR.out).2.2
  obtain ⟨ad, rfl, hc⟩ := Kd.at_string HC.out 0 (by decide) (by decide)
  have hc2 : w3.cell? ad = some (.string ⟨#[112]⟩) := by
    have h1 : ad.add (Int.toNat 0) = ad := by simp [Addr.add]
    rw [h1] at hc
    exact hc
  have hlt := World.block_lt_of_cell? _ _ hc2
  obtain ⟨a0, a1, a2⟩ := c3 HA3.out
  have hlt1 := blk_lt HA3.out
  clear hc
  go_wp2
  go_ret
  exact ⟨rfl, below_alloc HB3.out _⟩
end Go.Proofs.YtelibndkkokadaaGreat.DC
