import Derived.Test.YtakkmhcidbamjaaProg
import Derived.Below
import Derived.Deep.Draws
import Derived.Deep.AppendLies
import Derived.Maps.AppendAt
import Derived.OwnWalk
import Derived.Laws.BytesArg
import Derived.Laws.MakeOwn
import Derived.Laws.OwnMore
import Derived.Deep.OwnRows
import Derived.Tactics
import Derived.Lib.ConvBytes
import Derived.Laws.Slices
import Derived.WalkKit
import Derived.KernelRfl
import Derived.RowKit3
import Derived.Deep.LoopGhost
import Derived.Deep.QuietTactic
import Derived.BigQuiet
import Derived.WideLaws
import Derived.Deep.DeepCutAuto
import Derived.Deep.CutBlock
import Derived.Deep.RegionHeld3
import Derived.Laws.Rows
import Derived.Lib.AppendStr
import Derived.ArgAppend
import Derived.Laws.IdiomCopy
import Derived.OrdersHeld
import Derived.Laws.BitsLemmas
import Derived.RowKit
import Derived.Test.YtakkmhcidbamjaaHandV
import Derived.Lib.OthersKept
import Derived.Lib.Hide
import Derived.Test.YtakkmhcidbamjaaWWords
import Derived.Test.YtakkmhcidbamjaaWLast
import Derived.Test.YtakkmhcidbamjaaWTab
import Derived.Test.YtakkmhcidbamjaaWFour
import Derived.Test.YtakkmhcidbamjaaWQPut
import Derived.Test.YtakkmhcidbamjaaWApart
import Derived.Test.YtakkmhcidbamjaaGV0
import Derived.Test.YtakkmhcidbamjaaEv18
import Derived.Deep.CutRange
namespace Go.Proofs.Ytakkmhcidbamjaa.GV
open Go.RowKit Go.Proofs.YtakkmhcidbamjaaW.PrintWords Go.Proofs.YtakkmhcidbamjaaW.PrintLast Go.Proofs.Ytakkmhcidbamjaa.HandV Go.Proofs.YtakkmhcidbamjaaW.PrintMore
attribute [local go_sem] max2_int min2_int max_two min_two max_three min_three max_four min_four   -- for this text's walks alone
theorem blk_first (w : World) (o o2 : Obj) : ((w.alloc o).alloc o2).heap[w.heap.size]? = some o := (Below.heap_alloc _ _ _ (by rw [World.size_alloc]; exact Nat.lt_succ_self _)).trans (blk_new w o)
theorem kA {w w6 : World} {o : Obj} (hb : Below (w.alloc o).drew.heap.size (w.alloc o).drew w6) : w6.heap[w.heap.size]? = some o := (hb.block _ (by show w.heap.size < (w.alloc o).heap.size; rw [World.size_alloc]; exact Nat.lt_succ_self _)).trans (blk_new w o)
theorem kB {w w6 : World} {o o2 : Obj} (hb : Below ((w.alloc o).alloc o2).drew.heap.size ((w.alloc o).alloc o2).drew w6) : w6.heap[w.heap.size]? = some o := (hb.block _ (by show w.heap.size < ((w.alloc o).alloc o2).heap.size; rw [World.size_alloc, World.size_alloc]; omega)).trans (blk_first w o o2)
theorem kC {w w6 : World} {o o2 : Obj} (hb : Below ((w.alloc o).alloc o2).drew.heap.size ((w.alloc o).alloc o2).drew w6) : w6.heap[w.heap.size + 1]? = some o2 := (hb.block _ (by show w.heap.size + 1 < ((w.alloc o).alloc o2).heap.size; rw [World.size_alloc, World.size_alloc]; omega)).trans (blk_at _ _ _ (World.size_alloc ..))
theorem below_undrew {B : Nat} {a w : World} (h : Below B a w.drew) : Below B a w := ⟨h.os, h.tape, h.output, h.size, h.block⟩
theorem cell_undrew {w : World} {a : Addr} {v : Value} (h : w.drew.cell? a = some v) : w.cell? a = some v := h
set_option maxRecDepth 100000 in
set_option maxHeartbeats 16000000 in
theorem first_calls (a0 a1 a2 : Int) (w : World) : Calls Try.prog 4 #[.int .i64 a0, .int .i64 a1, .int .i64 a2] w fun e w' => e = .returned (.bool true) ∧ Below w.heap.size w w' := by
  obtain ⟨x, hx, hxf⟩ := within_n a0 3 (by decide) (by decide)
  obtain ⟨y, hy, hyf⟩ := within_n a1 3 (by decide) (by decide)
  obtain ⟨z, hz, hzf⟩ := within_n a2 12 (by decide) (by decide)
  have hkn := fun W => known_calls W
  have hwx := fun W => chancellaw13_within.calls a0 3 (x : Int) W hxf
  have hwy := fun W => chancellaw13_within.calls a1 3 (y : Int) W hyf
  clear hxf hyf
  go_enter Try.func4, Try.ntmps4
  go_upto_region 9 with (first | (go_at_call 5; refine (hkn _).mono ?_; rintro e w1 ⟨rfl, hb⟩; have HB1 := Aside0.mk hb; clear hb) | (go_at_call_of 6 a0; refine (hwx _).mono ?_; rintro e w2 ⟨rfl, hd⟩; have HDX := Aside0.mk hd; clear hd) | (go_at_call_of 6 a1; refine (hwy _).mono ?_; rintro e w3 ⟨rfl, hd⟩; have HDY := Aside0.mk hd; clear hd))
  have Hc := HDX.out.below.trans (HDY.out.below.mono HDX.out.below.size)
  have HB3 : Aside0 (Below w.heap.size w w3) := ⟨below_step (by repeat (first | exact HB1.out | apply below_alloc)) Hc⟩
  have hg1 : w3.heap[w1.heap.size]? = some (.cells #[.int .i64 4, .bool false, .int .i64 0, .string ⟨#[]⟩, .string ⟨#[65]⟩, .string ⟨#[120]⟩, .slice none 0 0] 28 (0, 0)) := (Hc.block _ (by first | (simp; done) | (simp; omega))).trans (by repeat (first | exact blk_at _ _ _ (by simp; done) | (refine (Below.heap_alloc _ _ _ (by first | (simp; done) | (simp; omega))).trans ?_)))
  have hg2 : w3.heap[w1.heap.size + 1 + 1]? = some (.cells #[.int .i64 2, .bool false, .int .i64 9223372036854775807, .string ⟨#[]⟩, .string ⟨#[]⟩, .string ⟨#[]⟩, .slice none 0 0, .int .i64 2, .bool false, .int .i64 1, .string ⟨#[]⟩, .string ⟨#[]⟩, .string ⟨#[]⟩, .slice none 0 0] 28 (0, 0)) := (Hc.block _ (by first | (simp; done) | (simp; omega))).trans (by repeat (first | exact blk_at _ _ _ (by simp; done) | (refine (Below.heap_alloc _ _ _ (by first | (simp; done) | (simp; omega))).trans ?_)))
  have hg3 : w3.heap[w1.heap.size + 1 + 1 + 1 + 1]? = some (.cells #[.int .i64 2, .bool false, .int .i64 0, .string ⟨#[]⟩, .string ⟨#[]⟩, .string ⟨#[]⟩, .slice none 0 0] 28 (0, 0)) := (Hc.block _ (by first | (simp; done) | (simp; omega))).trans (by repeat (first | exact blk_at _ _ _ (by simp; done) | (refine (Below.heap_alloc _ _ _ (by first | (simp; done) | (simp; omega))).trans ?_)))
  have hgl : w3.heap[w1.heap.size + 1 + 1 + 1 + 1 + 1 + 1]? = some (.cells #[.int .i64 7, .bool false, .int .i64 0, .string ⟨#[97]⟩, .string ⟨#[]⟩, .string ⟨#[]⟩, .slice (some ⟨w1.heap.size, 0, none⟩) 1 1, .int .i64 14, .bool false, .int .i64 0, .string ⟨#[]⟩, .string ⟨#[]⟩, .string ⟨#[]⟩, .slice (some ⟨w1.heap.size + 1 + 1, 0, none⟩) 2 2, .int .i64 11, .bool false, .int .i64 0, .string ⟨#[]⟩, .string ⟨#[]⟩, .string ⟨#[]⟩, .slice (some ⟨w1.heap.size + 1 + 1 + 1 + 1, 0, none⟩) 1 1] 28 (0, 0)) := (Hc.block _ (by first | (simp; done) | (simp; omega))).trans (by repeat (first | exact blk_at _ _ _ (by simp; done) | (refine (Below.heap_alloc _ _ _ (by first | (simp; done) | (simp; omega))).trans ?_)))
  have hge : w3.heap[w1.heap.size + 1 + 1 + 1 + 1 + 1 + 1 + 1]? = some (.cells #[.int .i64 18, .int .i64 17, .int .i64 16] 32 (0, 0)) := (Hc.block _ (by first | (simp; done) | (simp; omega))).trans (by repeat (first | exact blk_at _ _ _ (by simp; done) | (refine (Below.heap_alloc _ _ _ (by first | (simp; done) | (simp; omega))).trans ?_)))
  obtain ⟨ox, sx, px, mx, qx, ⟨hx0, hx1, hx2, hx3, hx4, hx5, hx6⟩, hTx⟩ := trees x hx w3 (w1.heap.size + 1 + 1 + 1 + 1 + 1 + 1) (w1.heap.size) (w1.heap.size + 1 + 1) (w1.heap.size + 1 + 1 + 1 + 1) hgl hg1 hg2 hg3
  obtain ⟨oy, sy, py, my, qy, ⟨hy0, hy1, hy2, hy3, hy4, hy5, hy6⟩, hTy⟩ := trees y hy w3 (w1.heap.size + 1 + 1 + 1 + 1 + 1 + 1) (w1.heap.size) (w1.heap.size + 1 + 1) (w1.heap.size + 1 + 1 + 1 + 1) hgl hg1 hg2 hg3
  have hex := errs_at x hx w3 _ hge
  have hey := errs_at y hy w3 _ hge
  have HTX := Aside0.mk hTx
  have HTY := Aside0.mk hTy
  clear HDX HDY Hc hg1 hg2 hg3 hgl hge hTx hTy
  generalize hgleq : w1.heap.size + 1 + 1 + 1 + 1 + 1 + 1 = gl at hx0 hx1 hx2 hx3 hx4 hx5 hx6 hy0 hy1 hy2 hy3 hy4 hy5 hy6 hex hey ⊢
  have hglt : gl < w3.heap.size := World.block_lt_of_cell? _ _ hx0
  have hrefl : Below w3.heap.size w3 w3 := Below.refl _ _
  have hwz := fun W => chancellaw13_within.calls a2 12 (z : Int) W hzf
  have hwr : IntKind.i64.wrap (13 + (z : Int)) = 13 + (z : Int) := (i64_w _).trans (by unfold wrap64; omega)
  have p0 : (0 ≤ (x : Int)) = True := eq_true (by omega)
  have p1 : ((x : Int) < 3) = True := eq_true (by omega)
  have p2 : (0 ≤ (y : Int)) = True := eq_true (by omega)
  have p3 : ((y : Int) < 3) = True := eq_true (by omega)
  have p4 : (0 : Int) ≤ (x : Int) := by omega
  have p5 : (x : Int) < 3 := by omega
  have p6 : (0 : Int) ≤ (y : Int) := by omega
  have p7 : (y : Int) < 3 := by omega
  have hc1 : ∀ (gk : Nat) (U : World), U.heap[gk]? = some (.cells #[.int .i64 ox, .bool false, .int .i64 0, .string sx, .string ⟨#[]⟩, .string ⟨#[]⟩, .slice px mx qx, .int .i64 oy, .bool false, .int .i64 0, .string sy, .string ⟨#[]⟩, .string ⟨#[]⟩, .slice py my qy] 28 (0, 0)) → Below w3.heap.size w3 U → Calls Try.prog 7 #[.slice none 0 0, .agg #[.string ⟨#[]⟩, .string ⟨#[]⟩, .string ⟨#[]⟩, .string ⟨#[]⟩, .string ⟨#[]⟩, .string ⟨#[]⟩], .agg #[.int .i64 (13 + (z : Int)), .bool false, .int .i64 0, .string ⟨#[]⟩, .string ⟨#[]⟩, .string ⟨#[]⟩, .slice (some ⟨gk, 0, none⟩) 2 2]] U fun e w' => e = .returned (.tuple #[.agg #[.int .i64 0, .bool false, .int .i64 0, .string ⟨#[]⟩, .string ⟨#[]⟩, .string ⟨#[]⟩, .slice none 0 0], .int .i64 (18 - (x : Int))]) ∧ Below U.heap.size U w' :=
    fun gk U h hU => Expr_err (18 - (x : Int)) (13 + (z : Int)) false 0 _ _ _ (some ⟨gk, 0, none⟩) 2 2 U (fun W hW => first_errs (13 + (z : Int)) (by omega) (by omega) (18 - (x : Int)) (by omega) ox sx px mx qx _ _ _ _ _ _ _ gk 2 (0, 0) W ((hW.block gk (lt_of_heap h)).trans h) (fun W2 hW2 => HTX.out W2 (below_step (below_step hU hW) hW2)))
  have hc2 : ∀ (gk : Nat) (U : World), U.heap[gk]? = some (.cells #[.int .i64 ox, .bool false, .int .i64 0, .string sx, .string ⟨#[]⟩, .string ⟨#[]⟩, .slice px mx qx, .int .i64 oy, .bool false, .int .i64 0, .string sy, .string ⟨#[]⟩, .string ⟨#[]⟩, .slice py my qy, .int .i64 oy, .bool false, .int .i64 0, .string sy, .string ⟨#[]⟩, .string ⟨#[]⟩, .slice py my qy] 28 (0, 0)) → Below w3.heap.size w3 U → Calls Try.prog 7 #[.slice none 0 0, .agg #[.string ⟨#[]⟩, .string ⟨#[]⟩, .string ⟨#[]⟩, .string ⟨#[]⟩, .string ⟨#[]⟩, .string ⟨#[]⟩], .agg #[.int .i64 25, .bool false, .int .i64 0, .string ⟨#[]⟩, .string ⟨#[]⟩, .string ⟨#[]⟩, .slice (some ⟨gk, 0, none⟩) 3 3]] U fun e w' => e = .returned (.tuple #[.agg #[.int .i64 0, .bool false, .int .i64 0, .string ⟨#[]⟩, .string ⟨#[]⟩, .string ⟨#[]⟩, .slice none 0 0], .int .i64 (18 - (x : Int))]) ∧ Below U.heap.size U w' :=
    fun gk U h hU => Expr_err (18 - (x : Int)) 25 false 0 _ _ _ (some ⟨gk, 0, none⟩) 3 3 U (fun W hW => if_errs (18 - (x : Int)) (by omega) ox sx px mx qx _ _ _ _ _ _ _ _ _ _ _ _ _ _ gk 3 (0, 0) W ((hW.block gk (lt_of_heap h)).trans h) (fun W2 hW2 => HTX.out W2 (below_step (below_step hU hW) hW2)))
  have hc3 : ∀ (gk : Nat) (U : World), U.heap[gk]? = some (.cells #[.int .i64 1, .bool true, .int .i64 0, .string ⟨#[]⟩, .string ⟨#[]⟩, .string ⟨#[]⟩, .slice none 0 0, .int .i64 oy, .bool false, .int .i64 0, .string sy, .string ⟨#[]⟩, .string ⟨#[]⟩, .slice py my qy] 28 (0, 0)) → Below w3.heap.size w3 U → Calls Try.prog 7 #[.slice none 0 0, .agg #[.string ⟨#[]⟩, .string ⟨#[]⟩, .string ⟨#[]⟩, .string ⟨#[]⟩, .string ⟨#[]⟩, .string ⟨#[]⟩], .agg #[.int .i64 23, .bool false, .int .i64 0, .string ⟨#[]⟩, .string ⟨#[]⟩, .string ⟨#[]⟩, .slice (some ⟨gk, 0, none⟩) 2 2]] U fun e w' => e = .returned (.tuple #[.agg #[.int .i64 0, .bool false, .int .i64 0, .string ⟨#[]⟩, .string ⟨#[]⟩, .string ⟨#[]⟩, .slice none 0 0], .int .i64 (18 - (y : Int))]) ∧ Below U.heap.size U w' :=
    fun gk U h hU => Expr_err (18 - (y : Int)) 23 false 0 _ _ _ (some ⟨gk, 0, none⟩) 2 2 U (fun W hW => and_errs (18 - (y : Int)) (by omega) oy sy py my qy gk 2 (0, 0) W ((hW.block gk (lt_of_heap h)).trans h) (fun W2 hW2 => HTY.out W2 (below_step (below_step hU hW) hW2)))
  go_cut [14, 15] from 42 to 59 (fun s14 s15 wx => s15 = .int .i64 (18 - (x : Int)) ∧ Aside0 (Below w3.heap.size w3 wx))
  case first =>
    go_region_held3 (fun W => W.cell? ⟨gl, x * 7, none⟩ = some (Value.int .i64 ox) ∧ W.cell? ⟨gl, x * 7 + 1, none⟩ = some (Value.bool false) ∧ W.cell? ⟨gl, x * 7 + 2, none⟩ = some (Value.int .i64 0) ∧ W.cell? ⟨gl, x * 7 + 3, none⟩ = some (Value.string sx) ∧ W.cell? ⟨gl, x * 7 + 4, none⟩ = some (Value.string ⟨#[]⟩) ∧ W.cell? ⟨gl, x * 7 + 5, none⟩ = some (Value.string ⟨#[]⟩) ∧ W.cell? ⟨gl, x * 7 + 6, none⟩ = some (Value.slice px mx qx) ∧ W.cell? ⟨gl, y * 7, none⟩ = some (Value.int .i64 oy) ∧ W.cell? ⟨gl, y * 7 + 1, none⟩ = some (Value.bool false) ∧ W.cell? ⟨gl, y * 7 + 2, none⟩ = some (Value.int .i64 0) ∧ W.cell? ⟨gl, y * 7 + 3, none⟩ = some (Value.string sy) ∧ W.cell? ⟨gl, y * 7 + 4, none⟩ = some (Value.string ⟨#[]⟩) ∧ W.cell? ⟨gl, y * 7 + 5, none⟩ = some (Value.string ⟨#[]⟩) ∧ W.cell? ⟨gl, y * 7 + 6, none⟩ = some (Value.slice py my qy) ∧ Below w3.heap.size w3 W)
      ((first | ((try go_split_ands); refine ⟨?_, ?_, ?_, ?_, ?_, ?_, ?_, ?_, ?_, ?_, ?_, ?_, ?_, ?_, ?_⟩ <;> first | (with_reducible assumption) | (with_reducible exact cell_drew (by with_reducible assumption)) | (with_reducible exact below_drew1 (by with_reducible assumption)) | (with_reducible exact below_drew1 (below_alloc (below_undrew (by with_reducible assumption)) _)) | (with_reducible exact cell_drew (cell_alloc (cell_undrew (by with_reducible assumption)))) | (with_reducible exact cell_after7 (by with_reducible assumption) (by omega)) | (with_reducible exact below_after7 (by with_reducible assumption) (by omega)) | (with_reducible exact Box.after7 (by with_reducible assumption) (by omega)) | (with_reducible exact (hb.cell (World.block_lt_of_cell? _ _ (by with_reducible assumption))).trans (by with_reducible assumption)) | (with_reducible exact below_step (by with_reducible assumption) hb) | (with_reducible exact Box.mono (by with_reducible assumption) hb) | (with_reducible exact cell_alloc (by with_reducible assumption)) | (with_reducible exact cell_drew (cell_alloc (by with_reducible assumption))) | (with_reducible exact below_drew1 (below_alloc (by with_reducible assumption) _)) | (with_reducible exact Box.drew (Box.alloc (by with_reducible assumption) _)) | (with_reducible exact below_alloc (by with_reducible assumption) _) | (with_reducible exact Box.alloc (by with_reducible assumption) _) | (with_reducible exact cell_realloc (by with_reducible assumption) (by omega)) | (with_reducible exact Box.realloc (by with_reducible assumption) (by omega)) | (with_reducible exact below_alloc HL.out _))))
      ((first | (go_at_call 6; refine (hwz _).mono ?_; rintro e w6 ⟨rfl, hd⟩; have hb := hd.below; clear hd; have hsz6 : w3.heap.size ≤ w6.heap.size := Nat.le_trans (by first | exact Nat.le_refl _ | (simp; done) | (simp; omega)) hb.size; (first | (have HB6a : Box w6 w3.heap.size := kA hb) | (have HB6a : Box w6 w3.heap.size := kB hb) | skip); (first | (have HB6b : Box w6 (w3.heap.size + 1) := kC hb) | skip); (first | (have HK6a : w6.heap[w3.heap.size]? = some (.cells #[.int .i64 ox, .bool false, .int .i64 0, .string sx, .string ⟨#[]⟩, .string ⟨#[]⟩, .slice px mx qx, .int .i64 oy, .bool false, .int .i64 0, .string sy, .string ⟨#[]⟩, .string ⟨#[]⟩, .slice py my qy] 28 (0, 0)) := kA hb) | (have HK6a : w6.heap[w3.heap.size]? = some (.cells #[.int .i64 ox, .bool false, .int .i64 0, .string sx, .string ⟨#[]⟩, .string ⟨#[]⟩, .slice px mx qx, .int .i64 oy, .bool false, .int .i64 0, .string sy, .string ⟨#[]⟩, .string ⟨#[]⟩, .slice py my qy] 28 (0, 0)) := kB hb) | skip); (first | (have HK6b : w6.heap[w3.heap.size + 1]? = some (.cells #[.int .i64 ox, .bool false, .int .i64 0, .string sx, .string ⟨#[]⟩, .string ⟨#[]⟩, .slice px mx qx, .int .i64 oy, .bool false, .int .i64 0, .string sy, .string ⟨#[]⟩, .string ⟨#[]⟩, .slice py my qy] 28 (0, 0)) := kC hb) | skip)) | (go_at_call 7; refine (hc1 _ _ ?hh ?hu).mono ?_; (case hh => first | exact HK6a | exact HK6b | exact (Below.heap_alloc _ _ _ (lt_of_heap HK6a)).trans HK6a | exact (Below.heap_alloc _ _ _ (lt_of_heap HK6b)).trans HK6b | exact blk_new _ _ | exact blk_at _ _ _ (World.size_alloc ..) | exact blk_first _ _ _); (case hu => exact (by go_split_ands; with_reducible assumption)); rintro e w7 ⟨rfl, hb⟩; first | (have HQ7 : Box w7 w3.heap.size := Box.mono (Box.alloc HB6a _) hb; have q0 := HQ7.c0; have q1 := HQ7.c1; have q2 := HQ7.c2; have q3 := HQ7.c3; have q4 := HQ7.c4; have q5 := HQ7.c5; have q6 := HQ7.c6; have q7 := HQ7.fr) | (have HQ7 : Box w7 w3.heap.size := Box.mono HB6a hb; have q0 := HQ7.c0; have q1 := HQ7.c1; have q2 := HQ7.c2; have q3 := HQ7.c3; have q4 := HQ7.c4; have q5 := HQ7.c5; have q6 := HQ7.c6; have q7 := HQ7.fr) | (have HQ7 : Box w7 (w3.heap.size + 1) := Box.mono HB6b hb; have q0 := HQ7.c0; have q1 := HQ7.c1; have q2 := HQ7.c2; have q3 := HQ7.c3; have q4 := HQ7.c4; have q5 := HQ7.c5; have q6 := HQ7.c6; have q7 := HQ7.fr) | (have HQ7 : Box w7 (w3.heap.size + 1) := Box.mono (Box.alloc HB6b _) hb; have q0 := HQ7.c0; have q1 := HQ7.c1; have q2 := HQ7.c2; have q3 := HQ7.c3; have q4 := HQ7.c4; have q5 := HQ7.c5; have q6 := HQ7.c6; have q7 := HQ7.fr) | (have HQ7 : Box w7 w6.heap.size := Box.mono (Box.alloc (blk_new w6 _) _) hb; have q0 := HQ7.c0; have q1 := HQ7.c1; have q2 := HQ7.c2; have q3 := HQ7.c3; have q4 := HQ7.c4; have q5 := HQ7.c5; have q6 := HQ7.c6; have q7 := HQ7.fr) | (have HQ7 : Box w7 w6.heap.size := Box.mono (blk_new w6 _) hb; have q0 := HQ7.c0; have q1 := HQ7.c1; have q2 := HQ7.c2; have q3 := HQ7.c3; have q4 := HQ7.c4; have q5 := HQ7.c5; have q6 := HQ7.c6; have q7 := HQ7.fr) | (have HQ7 : Box w7 (w6.heap.size + 1) := Box.mono (blk_at (w6.alloc _) _ (w6.heap.size + 1) (World.size_alloc ..)) hb; have q0 := HQ7.c0; have q1 := HQ7.c1; have q2 := HQ7.c2; have q3 := HQ7.c3; have q4 := HQ7.c4; have q5 := HQ7.c5; have q6 := HQ7.c6; have q7 := HQ7.fr) | skip)))
    all_goals go_split_ands
    all_goals (go_wp2_with fail; go_meet; exact ⟨rfl, ⟨by with_reducible assumption⟩⟩)
  case rest =>
  obtain ⟨rfl, HB9⟩ := hcut
  have hb9 : Below w3.heap.size w3 wc := HB9.out
  have hszc : w3.heap.size ≤ wc.heap.size := HB9.out.size
  have cx0 : wc.cell? ⟨gl, x * 7, none⟩ = some (Value.int .i64 ox) := (HB9.out.cell (World.block_lt_of_cell? _ _ hx0)).trans hx0
  have cx1 : wc.cell? ⟨gl, x * 7 + 1, none⟩ = some (Value.bool false) := (HB9.out.cell (World.block_lt_of_cell? _ _ hx1)).trans hx1
  have cx2 : wc.cell? ⟨gl, x * 7 + 2, none⟩ = some (Value.int .i64 0) := (HB9.out.cell (World.block_lt_of_cell? _ _ hx2)).trans hx2
  have cx3 : wc.cell? ⟨gl, x * 7 + 3, none⟩ = some (Value.string sx) := (HB9.out.cell (World.block_lt_of_cell? _ _ hx3)).trans hx3
  have cx4 : wc.cell? ⟨gl, x * 7 + 4, none⟩ = some (Value.string ⟨#[]⟩) := (HB9.out.cell (World.block_lt_of_cell? _ _ hx4)).trans hx4
  have cx5 : wc.cell? ⟨gl, x * 7 + 5, none⟩ = some (Value.string ⟨#[]⟩) := (HB9.out.cell (World.block_lt_of_cell? _ _ hx5)).trans hx5
  have cx6 : wc.cell? ⟨gl, x * 7 + 6, none⟩ = some (Value.slice px mx qx) := (HB9.out.cell (World.block_lt_of_cell? _ _ hx6)).trans hx6
  have cy0 : wc.cell? ⟨gl, y * 7, none⟩ = some (Value.int .i64 oy) := (HB9.out.cell (World.block_lt_of_cell? _ _ hy0)).trans hy0
  have cy1 : wc.cell? ⟨gl, y * 7 + 1, none⟩ = some (Value.bool false) := (HB9.out.cell (World.block_lt_of_cell? _ _ hy1)).trans hy1
  have cy2 : wc.cell? ⟨gl, y * 7 + 2, none⟩ = some (Value.int .i64 0) := (HB9.out.cell (World.block_lt_of_cell? _ _ hy2)).trans hy2
  have cy3 : wc.cell? ⟨gl, y * 7 + 3, none⟩ = some (Value.string sy) := (HB9.out.cell (World.block_lt_of_cell? _ _ hy3)).trans hy3
  have cy4 : wc.cell? ⟨gl, y * 7 + 4, none⟩ = some (Value.string ⟨#[]⟩) := (HB9.out.cell (World.block_lt_of_cell? _ _ hy4)).trans hy4
  have cy5 : wc.cell? ⟨gl, y * 7 + 5, none⟩ = some (Value.string ⟨#[]⟩) := (HB9.out.cell (World.block_lt_of_cell? _ _ hy5)).trans hy5
  have cy6 : wc.cell? ⟨gl, y * 7 + 6, none⟩ = some (Value.slice py my qy) := (HB9.out.cell (World.block_lt_of_cell? _ _ hy6)).trans hy6
  go_upto_region 10 with fail
  go_cut [16, 17] from 60 to 78 (fun s16 s17 wx => s17 = .int .i64 (18 - (x : Int)) ∧ Aside0 (Below w3.heap.size w3 wx))
  case first =>
    go_region_held3 (fun W => W.cell? ⟨gl, x * 7, none⟩ = some (Value.int .i64 ox) ∧ W.cell? ⟨gl, x * 7 + 1, none⟩ = some (Value.bool false) ∧ W.cell? ⟨gl, x * 7 + 2, none⟩ = some (Value.int .i64 0) ∧ W.cell? ⟨gl, x * 7 + 3, none⟩ = some (Value.string sx) ∧ W.cell? ⟨gl, x * 7 + 4, none⟩ = some (Value.string ⟨#[]⟩) ∧ W.cell? ⟨gl, x * 7 + 5, none⟩ = some (Value.string ⟨#[]⟩) ∧ W.cell? ⟨gl, x * 7 + 6, none⟩ = some (Value.slice px mx qx) ∧ W.cell? ⟨gl, y * 7, none⟩ = some (Value.int .i64 oy) ∧ W.cell? ⟨gl, y * 7 + 1, none⟩ = some (Value.bool false) ∧ W.cell? ⟨gl, y * 7 + 2, none⟩ = some (Value.int .i64 0) ∧ W.cell? ⟨gl, y * 7 + 3, none⟩ = some (Value.string sy) ∧ W.cell? ⟨gl, y * 7 + 4, none⟩ = some (Value.string ⟨#[]⟩) ∧ W.cell? ⟨gl, y * 7 + 5, none⟩ = some (Value.string ⟨#[]⟩) ∧ W.cell? ⟨gl, y * 7 + 6, none⟩ = some (Value.slice py my qy) ∧ Below w3.heap.size w3 W)
      ((first | ((try go_split_ands); refine ⟨?_, ?_, ?_, ?_, ?_, ?_, ?_, ?_, ?_, ?_, ?_, ?_, ?_, ?_, ?_⟩ <;> first | (with_reducible assumption) | (with_reducible exact cell_drew (by with_reducible assumption)) | (with_reducible exact below_drew1 (by with_reducible assumption)) | (with_reducible exact below_drew1 (below_alloc (below_undrew (by with_reducible assumption)) _)) | (with_reducible exact cell_drew (cell_alloc (cell_undrew (by with_reducible assumption)))) | (with_reducible exact cell_after7 (by with_reducible assumption) (by omega)) | (with_reducible exact below_after7 (by with_reducible assumption) (by omega)) | (with_reducible exact Box.after7 (by with_reducible assumption) (by omega)) | (with_reducible exact (hb.cell (World.block_lt_of_cell? _ _ (by with_reducible assumption))).trans (by with_reducible assumption)) | (with_reducible exact below_step (by with_reducible assumption) hb) | (with_reducible exact Box.mono (by with_reducible assumption) hb) | (with_reducible exact cell_alloc (by with_reducible assumption)) | (with_reducible exact cell_drew (cell_alloc (by with_reducible assumption))) | (with_reducible exact below_drew1 (below_alloc (by with_reducible assumption) _)) | (with_reducible exact Box.drew (Box.alloc (by with_reducible assumption) _)) | (with_reducible exact below_alloc (by with_reducible assumption) _) | (with_reducible exact Box.alloc (by with_reducible assumption) _) | (with_reducible exact cell_realloc (by with_reducible assumption) (by omega)) | (with_reducible exact Box.realloc (by with_reducible assumption) (by omega)) | (with_reducible exact below_alloc HL.out _))))
      ((first | (go_at_call 7; refine (hc2 _ _ ?hh ?hu).mono ?_; (case hh => first | exact blk_new _ _ | exact blk_first _ _ _ | exact blk_at _ _ _ (World.size_alloc ..)); (case hu => exact (by go_split_ands; with_reducible assumption)); rintro e w7 ⟨rfl, hb⟩; first | (have HQ7 : Box w7 wc.heap.size := kB hb; have q0 := HQ7.c0; have q1 := HQ7.c1; have q2 := HQ7.c2; have q3 := HQ7.c3; have q4 := HQ7.c4; have q5 := HQ7.c5; have q6 := HQ7.c6; have q7 := HQ7.fr) | (have HQ7 : Box w7 (wc.heap.size + 1) := kC hb; have q0 := HQ7.c0; have q1 := HQ7.c1; have q2 := HQ7.c2; have q3 := HQ7.c3; have q4 := HQ7.c4; have q5 := HQ7.c5; have q6 := HQ7.c6; have q7 := HQ7.fr) | skip)))
    all_goals go_split_ands
    all_goals (go_wp2_with fail; go_meet; exact ⟨rfl, ⟨by with_reducible assumption⟩⟩)
  case rest =>
  obtain ⟨rfl, HB10⟩ := hcut
  have hb10 : Below w3.heap.size w3 wc := HB10.out
  have dy0 : wc.cell? ⟨gl, y * 7, none⟩ = some (Value.int .i64 oy) := (HB10.out.cell (World.block_lt_of_cell? _ _ hy0)).trans hy0
  have dy1 : wc.cell? ⟨gl, y * 7 + 1, none⟩ = some (Value.bool false) := (HB10.out.cell (World.block_lt_of_cell? _ _ hy1)).trans hy1
  have dy2 : wc.cell? ⟨gl, y * 7 + 2, none⟩ = some (Value.int .i64 0) := (HB10.out.cell (World.block_lt_of_cell? _ _ hy2)).trans hy2
  have dy3 : wc.cell? ⟨gl, y * 7 + 3, none⟩ = some (Value.string sy) := (HB10.out.cell (World.block_lt_of_cell? _ _ hy3)).trans hy3
  have dy4 : wc.cell? ⟨gl, y * 7 + 4, none⟩ = some (Value.string ⟨#[]⟩) := (HB10.out.cell (World.block_lt_of_cell? _ _ hy4)).trans hy4
  have dy5 : wc.cell? ⟨gl, y * 7 + 5, none⟩ = some (Value.string ⟨#[]⟩) := (HB10.out.cell (World.block_lt_of_cell? _ _ hy5)).trans hy5
  have dy6 : wc.cell? ⟨gl, y * 7 + 6, none⟩ = some (Value.slice py my qy) := (HB10.out.cell (World.block_lt_of_cell? _ _ hy6)).trans hy6
  go_wp2_with (go_at_call 7; refine (hc3 _ _ (blk_new _ _) (below_alloc hb10 _)).mono ?_; rintro e w9 ⟨rfl, hb⟩; have HB11 : Aside0 (Below w3.heap.size w3 w9) := ⟨below_step (below_alloc hb10 _) hb⟩; have ex : w9.cell? ⟨gl + 1, x, none⟩ = some (.int .i64 (18 - (x : Int))) := (HB11.out.cell (World.block_lt_of_cell? _ _ hex)).trans hex; have ey : w9.cell? ⟨gl + 1, y, none⟩ = some (.int .i64 (18 - (y : Int))) := (HB11.out.cell (World.block_lt_of_cell? _ _ hey)).trans hey; have hsz9 : gl + 1 < w9.heap.size := World.block_lt_of_cell? _ _ ex; clear hb)
  go_ret
  exact ⟨rfl, below_alloc (below_step HB3.out HB11.out) _⟩
end Go.Proofs.Ytakkmhcidbamjaa.GV
