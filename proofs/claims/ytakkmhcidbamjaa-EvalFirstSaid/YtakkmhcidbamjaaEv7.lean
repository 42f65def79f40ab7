import Derived.Test.YtakkmhcidbamjaaProg
import Derived.Below
import Derived.Deep.Draws
import Derived.Deep.AppendLies
import Derived.Maps.AppendAt
import Derived.OwnWalk
import Derived.Laws.BytesArg
import Derived.Laws.MakeOwn
import Derived.Laws.OwnMore
import Derived.Deep.OwnRows
import Derived.Tactics
import Derived.Lib.ConvBytes
import Derived.Laws.Slices
import Derived.WalkKit
import Derived.KernelRfl
import Derived.RowKit3
import Derived.Deep.LoopGhost
import Derived.Deep.QuietTactic
import Derived.BigQuiet
import Derived.WideLaws
import Derived.Deep.DeepCutAuto
import Derived.Deep.CutBlock
import Derived.Deep.RegionHeld3
import Derived.Laws.Rows
import Derived.Lib.AppendStr
import Derived.ArgAppend
import Derived.Laws.IdiomCopy
import Derived.OrdersHeld
import Derived.Laws.BitsLemmas
import Derived.RowKit
import Derived.Test.YtakkmhcidbamjaaHandV
import Derived.Lib.OthersKept
import Derived.Lib.Hide
import Derived.Test.YtakkmhcidbamjaaWWords
import Derived.Test.YtakkmhcidbamjaaWLast
import Derived.Test.YtakkmhcidbamjaaWTab
import Derived.Test.YtakkmhcidbamjaaWFour
import Derived.Test.YtakkmhcidbamjaaWQPut
import Derived.Test.YtakkmhcidbamjaaWApart
import Derived.Test.YtakkmhcidbamjaaGV0
import Derived.Test.YtakkmhcidbamjaaEv6
namespace Go.Proofs.Ytakkmhcidbamjaa.GV
open Go.RowKit Go.Proofs.YtakkmhcidbamjaaW.PrintWords Go.Proofs.YtakkmhcidbamjaaW.PrintLast Go.Proofs.Ytakkmhcidbamjaa.HandV Go.Proofs.YtakkmhcidbamjaaW.PrintMore
attribute [local go_sem] max2_int min2_int max_two min_two max_three min_three max_four min_four   -- for this text's walks alone
set_option maxRecDepth 100000 in
set_option maxHeartbeats 8000000 in
theorem leaf1 (eb : Bool) (en : Int) (s eu ev : ByteArray) (kp : Option Addr) (kn kc : Nat) (w : World) : Calls Try.prog 10 #[.agg wd0, .agg #[.int .i64 1, .bool eb, .int .i64 en, .string s, .string eu, .string ev, .slice kp kn kc]] w fun e w' => e = .returned (.agg #[.int .i64 1, .bool eb, .int .i64 0, .string ⟨#[]⟩, .string ⟨#[]⟩, .string ⟨#[]⟩, .slice none 0 0]) ∧ Below w.heap.size w w' := by
  unfold wd0
  go_enter Try.func10, Try.ntmps10
  go_wp2
  (try simp only [Exit.inBlock, Exit.then])
  refine bodyPost_ret (results_cell_row rfl _ _ (w.heap.size + 1 + 1) 31 _ (0, 0) _ rfl (blk_at _ _ _ (by simp)) Try.underlying31 rfl (by kernel_rfl)) rfl ?_
  exact ⟨rfl, by repeat (first | exact Below.refl _ _ | apply below_alloc)⟩
set_option maxRecDepth 100000 in
set_option maxHeartbeats 8000000 in
theorem expr_leaf1 (eb : Bool) (en : Int) (s eu ev : ByteArray) (kp : Option Addr) (kn kc : Nat) (w : World) : Calls Try.prog 9 #[.agg wd0, .agg #[.int .i64 1, .bool eb, .int .i64 en, .string s, .string eu, .string ev, .slice kp kn kc]] w fun e w' => e = .returned (.tuple #[.agg #[.int .i64 1, .bool eb, .int .i64 0, .string ⟨#[]⟩, .string ⟨#[]⟩, .string ⟨#[]⟩, .slice none 0 0], .int .i64 0]) ∧ Below w.heap.size w w' := by
  have hl := leaf1 eb en s eu ev kp kn kc
  unfold wd0 at hl ⊢
  go_enter Try.func9, Try.ntmps9
  go_wp2_with ((go_at_call 10; refine (hl _).mono ?_; rintro e w1 ⟨rfl, hb⟩; have HB1 : Aside0 (Below w.heap.size w w1) := ⟨below_step (by repeat (first | exact Below.refl _ _ | apply below_alloc)) hb⟩; have HBX1 : Aside0 (Box w1 (w.heap.size + 1 + 1)) := ⟨(hb.block _ (by first | (simp; done) | (simp; omega))).trans (by repeat (first | exact blk_at _ _ _ (by simp; done) | (refine (Below.heap_alloc _ _ _ (by first | (simp; done) | (simp; omega))).trans ?_)))⟩; have r0 := HBX1.out.c0; have r1 := HBX1.out.c1; have r2 := HBX1.out.c2; have r3 := HBX1.out.c3; have r4 := HBX1.out.c4; have r5 := HBX1.out.c5; have r6 := HBX1.out.c6; have r7 := HBX1.out.fr; clear hb))
  (try simp only [Exit.inBlock, Exit.then])
  have hd := HBX1.out.done (.int .i64 1) (.bool eb) (.int .i64 0) (.string ⟨#[]⟩) (.string ⟨#[]⟩) (.string ⟨#[]⟩) (.slice none 0 0)
  have hbl := HB1.out.trans (below_cells (B := w.heap.size) (w.heap.size + 1 + 1) (by omega) [.int .i64 1, .bool eb, .int .i64 0, .string ⟨#[]⟩, .string ⟨#[]⟩, .string ⟨#[]⟩, .slice none 0 0] 0 w1)
  simp only [World.setCells] at hd hbl
  refine bodyPost_ret (results_row_tmp rfl _ _ (w.heap.size + 1 + 1) 31 _ (0, 0) _ rfl hd Try.underlying31 rfl (by kernel_rfl)) rfl ?_
  exact ⟨rfl, hbl⟩
set_option maxRecDepth 100000 in
set_option maxHeartbeats 8000000 in
theorem leaf2 (eb : Bool) (en : Int) (s eu ev : ByteArray) (kp : Option Addr) (kn kc : Nat) (w : World) : Calls Try.prog 10 #[.agg wd0, .agg #[.int .i64 2, .bool eb, .int .i64 en, .string s, .string eu, .string ev, .slice kp kn kc]] w fun e w' => e = .returned (.agg #[.int .i64 2, .bool false, .int .i64 en, .string ⟨#[]⟩, .string ⟨#[]⟩, .string ⟨#[]⟩, .slice none 0 0]) ∧ Below w.heap.size w w' := by
  unfold wd0
  go_enter Try.func10, Try.ntmps10
  go_wp2
  (try simp only [Exit.inBlock, Exit.then])
  refine bodyPost_ret (results_cell_row rfl _ _ (w.heap.size + 1 + 1) 31 _ (0, 0) _ rfl (blk_at _ _ _ (by simp)) Try.underlying31 rfl (by kernel_rfl)) rfl ?_
  exact ⟨rfl, by repeat (first | exact Below.refl _ _ | apply below_alloc)⟩
set_option maxRecDepth 100000 in
set_option maxHeartbeats 8000000 in
theorem expr_leaf2 (eb : Bool) (en : Int) (s eu ev : ByteArray) (kp : Option Addr) (kn kc : Nat) (w : World) : Calls Try.prog 9 #[.agg wd0, .agg #[.int .i64 2, .bool eb, .int .i64 en, .string s, .string eu, .string ev, .slice kp kn kc]] w fun e w' => e = .returned (.tuple #[.agg #[.int .i64 2, .bool false, .int .i64 en, .string ⟨#[]⟩, .string ⟨#[]⟩, .string ⟨#[]⟩, .slice none 0 0], .int .i64 0]) ∧ Below w.heap.size w w' := by
  have hl := leaf2 eb en s eu ev kp kn kc
  unfold wd0 at hl ⊢
  go_enter Try.func9, Try.ntmps9
  go_wp2_with ((go_at_call 10; refine (hl _).mono ?_; rintro e w1 ⟨rfl, hb⟩; have HB1 : Aside0 (Below w.heap.size w w1) := ⟨below_step (by repeat (first | exact Below.refl _ _ | apply below_alloc)) hb⟩; have HBX1 : Aside0 (Box w1 (w.heap.size + 1 + 1)) := ⟨(hb.block _ (by first | (simp; done) | (simp; omega))).trans (by repeat (first | exact blk_at _ _ _ (by simp; done) | (refine (Below.heap_alloc _ _ _ (by first | (simp; done) | (simp; omega))).trans ?_)))⟩; have r0 := HBX1.out.c0; have r1 := HBX1.out.c1; have r2 := HBX1.out.c2; have r3 := HBX1.out.c3; have r4 := HBX1.out.c4; have r5 := HBX1.out.c5; have r6 := HBX1.out.c6; have r7 := HBX1.out.fr; clear hb))
  (try simp only [Exit.inBlock, Exit.then])
  have hd := HBX1.out.done (.int .i64 2) (.bool false) (.int .i64 en) (.string ⟨#[]⟩) (.string ⟨#[]⟩) (.string ⟨#[]⟩) (.slice none 0 0)
  have hbl := HB1.out.trans (below_cells (B := w.heap.size) (w.heap.size + 1 + 1) (by omega) [.int .i64 2, .bool false, .int .i64 en, .string ⟨#[]⟩, .string ⟨#[]⟩, .string ⟨#[]⟩, .slice none 0 0] 0 w1)
  simp only [World.setCells] at hd hbl
  refine bodyPost_ret (results_row_tmp rfl _ _ (w.heap.size + 1 + 1) 31 _ (0, 0) _ rfl hd Try.underlying31 rfl (by kernel_rfl)) rfl ?_
  exact ⟨rfl, hbl⟩
set_option maxRecDepth 100000 in
set_option maxHeartbeats 8000000 in
theorem leaf4 (eb : Bool) (en : Int) (s eu ev : ByteArray) (kp : Option Addr) (kn kc : Nat) (w : World) : Calls Try.prog 10 #[.agg wd0, .agg #[.int .i64 4, .bool eb, .int .i64 en, .string s, .string eu, .string ev, .slice kp kn kc]] w fun e w' => e = .returned (.agg #[.int .i64 4, .bool false, .int .i64 0, .string ⟨#[]⟩, .string eu, .string ev, .slice none 0 0]) ∧ Below w.heap.size w w' := by
  unfold wd0
  go_enter Try.func10, Try.ntmps10
  go_wp2
  (try simp only [Exit.inBlock, Exit.then])
  refine bodyPost_ret (results_cell_row rfl _ _ (w.heap.size + 1 + 1) 31 _ (0, 0) _ rfl (blk_at _ _ _ (by simp)) Try.underlying31 rfl (by kernel_rfl)) rfl ?_
  exact ⟨rfl, by repeat (first | exact Below.refl _ _ | apply below_alloc)⟩
set_option maxRecDepth 100000 in
set_option maxHeartbeats 8000000 in
theorem expr_leaf4 (eb : Bool) (en : Int) (s eu ev : ByteArray) (kp : Option Addr) (kn kc : Nat) (w : World) : Calls Try.prog 9 #[.agg wd0, .agg #[.int .i64 4, .bool eb, .int .i64 en, .string s, .string eu, .string ev, .slice kp kn kc]] w fun e w' => e = .returned (.tuple #[.agg #[.int .i64 4, .bool false, .int .i64 0, .string ⟨#[]⟩, .string eu, .string ev, .slice none 0 0], .int .i64 0]) ∧ Below w.heap.size w w' := by
  have hl := leaf4 eb en s eu ev kp kn kc
  unfold wd0 at hl ⊢
  go_enter Try.func9, Try.ntmps9
  go_wp2_with ((go_at_call 10; refine (hl _).mono ?_; rintro e w1 ⟨rfl, hb⟩; have HB1 : Aside0 (Below w.heap.size w w1) := ⟨below_step (by repeat (first | exact Below.refl _ _ | apply below_alloc)) hb⟩; have HBX1 : Aside0 (Box w1 (w.heap.size + 1 + 1)) := ⟨(hb.block _ (by first | (simp; done) | (simp; omega))).trans (by repeat (first | exact blk_at _ _ _ (by simp; done) | (refine (Below.heap_alloc _ _ _ (by first | (simp; done) | (simp; omega))).trans ?_)))⟩; have r0 := HBX1.out.c0; have r1 := HBX1.out.c1; have r2 := HBX1.out.c2; have r3 := HBX1.out.c3; have r4 := HBX1.out.c4; have r5 := HBX1.out.c5; have r6 := HBX1.out.c6; have r7 := HBX1.out.fr; clear hb))
  (try simp only [Exit.inBlock, Exit.then])
  have hd := HBX1.out.done (.int .i64 4) (.bool false) (.int .i64 0) (.string ⟨#[]⟩) (.string eu) (.string ev) (.slice none 0 0)
  have hbl := HB1.out.trans (below_cells (B := w.heap.size) (w.heap.size + 1 + 1) (by omega) [.int .i64 4, .bool false, .int .i64 0, .string ⟨#[]⟩, .string eu, .string ev, .slice none 0 0] 0 w1)
  simp only [World.setCells] at hd hbl
  refine bodyPost_ret (results_row_tmp rfl _ _ (w.heap.size + 1 + 1) 31 _ (0, 0) _ rfl hd Try.underlying31 rfl (by kernel_rfl)) rfl ?_
  exact ⟨rfl, hbl⟩
end Go.Proofs.Ytakkmhcidbamjaa.GV
