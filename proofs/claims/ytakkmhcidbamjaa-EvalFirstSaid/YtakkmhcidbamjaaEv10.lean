import Derived.Test.YtakkmhcidbamjaaProg
import Derived.Below
import Derived.Deep.Draws
import Derived.Deep.AppendLies
import Derived.Maps.AppendAt
import Derived.OwnWalk
import Derived.Laws.BytesArg
import Derived.Laws.MakeOwn
import Derived.Laws.OwnMore
import Derived.Deep.OwnRows
import Derived.Tactics
import Derived.Lib.ConvBytes
import Derived.Laws.Slices
import Derived.WalkKit
import Derived.KernelRfl
import Derived.RowKit3
import Derived.Deep.LoopGhost
import Derived.Deep.QuietTactic
import Derived.BigQuiet
import Derived.WideLaws
import Derived.Deep.DeepCutAuto
import Derived.Deep.CutBlock
import Derived.Deep.RegionHeld3
import Derived.Laws.Rows
import Derived.Lib.AppendStr
import Derived.ArgAppend
import Derived.Laws.IdiomCopy
import Derived.OrdersHeld
import Derived.Laws.BitsLemmas
import Derived.RowKit
import Derived.Test.YtakkmhcidbamjaaHandV
import Derived.Lib.OthersKept
import Derived.Lib.Hide
import Derived.Test.YtakkmhcidbamjaaWWords
import Derived.Test.YtakkmhcidbamjaaWLast
import Derived.Test.YtakkmhcidbamjaaWTab
import Derived.Test.YtakkmhcidbamjaaWFour
import Derived.Test.YtakkmhcidbamjaaWQPut
import Derived.Test.YtakkmhcidbamjaaWApart
import Derived.Test.YtakkmhcidbamjaaGV0
import Derived.Test.YtakkmhcidbamjaaEv9
namespace Go.Proofs.Ytakkmhcidbamjaa.GV
open Go.RowKit Go.Proofs.YtakkmhcidbamjaaW.PrintWords Go.Proofs.YtakkmhcidbamjaaW.PrintLast Go.Proofs.Ytakkmhcidbamjaa.HandV Go.Proofs.YtakkmhcidbamjaaW.PrintMore
attribute [local go_sem] max2_int min2_int max_two min_two max_three min_three max_four min_four   -- for this text's walks alone
set_option maxRecDepth 100000 in
set_option maxHeartbeats 8000000 in
theorem expr_choice_err (op er : Int) (h1 : 23 ≤ op) (h2 : op < 25) (eb : Bool) (en : Int) (s eu ev : ByteArray) (kp : Option Addr) (kn kc : Nat) (hkn : 2 ≤ kn) (w : World)
    (hch : ∀ W, Below w.heap.size w W → Calls Try.prog 12 #[.agg wd0, .agg #[.int .i64 op, .bool eb, .int .i64 en, .string s, .string eu, .string ev, .slice kp kn kc]] W fun e w' => e = .returned (.tuple #[.agg #[.int .i64 0, .bool false, .int .i64 0, .string ⟨#[]⟩, .string ⟨#[]⟩, .string ⟨#[]⟩, .slice none 0 0], .int .i64 er]) ∧ Below W.heap.size W w') :
    Calls Try.prog 9 #[.agg wd0, .agg #[.int .i64 op, .bool eb, .int .i64 en, .string s, .string eu, .string ev, .slice kp kn kc]] w fun e w' => e = .returned (.tuple #[.agg #[.int .i64 0, .bool false, .int .i64 0, .string ⟨#[]⟩, .string ⟨#[]⟩, .string ⟨#[]⟩, .slice none 0 0], .int .i64 er]) ∧ Below w.heap.size w w' := by
  have o5 : ((kn : Int) == 0) = false := beq_eq_false_iff_ne.mpr (by omega)
  have o10 : decide ((kn : Int) < 2) = false := decide_eq_false (by omega)
  have o1 : decide (op < 6) = false := decide_eq_false (by omega)
  have o2 : (op == 6) = false := beq_eq_false_iff_ne.mpr (by omega)
  have o3 : decide (23 ≤ op) = true := decide_eq_true (by omega)
  have o4 : (op == 25) = false := beq_eq_false_iff_ne.mpr (by omega)
  unfold wd0 at hch ⊢
  go_enter Try.func9, Try.ntmps9
  go_wp2_with (go_at_call 12; refine (hch _ (by repeat (first | exact Below.refl _ _ | apply below_alloc))).mono ?_; rintro e w1 ⟨rfl, hb⟩; have HB1 : Aside0 (Below w.heap.size w w1) := ⟨below_step (by repeat (first | exact Below.refl _ _ | apply below_alloc)) hb⟩; have HBX1 : Aside0 (Box w1 (w.heap.size + 1 + 1)) := ⟨(hb.block _ (by first | (simp; done) | (simp; omega))).trans (by repeat (first | exact blk_at _ _ _ (by simp; done) | (refine (Below.heap_alloc _ _ _ (by first | (simp; done) | (simp; omega))).trans ?_)))⟩; have r0 := HBX1.out.c0; have r1 := HBX1.out.c1; have r2 := HBX1.out.c2; have r3 := HBX1.out.c3; have r4 := HBX1.out.c4; have r5 := HBX1.out.c5; have r6 := HBX1.out.c6; have r7 := HBX1.out.fr; clear hb)
  (try simp only [Exit.inBlock, Exit.then])
  have hd := HBX1.out.done (.int .i64 0) (.bool false) (.int .i64 0) (.string ⟨#[]⟩) (.string ⟨#[]⟩) (.string ⟨#[]⟩) (.slice none 0 0)
  have hbl := HB1.out.trans (below_cells (B := w.heap.size) (w.heap.size + 1 + 1) (by omega) [.int .i64 0, .bool false, .int .i64 0, .string ⟨#[]⟩, .string ⟨#[]⟩, .string ⟨#[]⟩, .slice none 0 0] 0 w1)
  simp only [World.setCells] at hd hbl
  refine bodyPost_ret (results_row_tmp rfl _ _ (w.heap.size + 1 + 1) 31 _ (0, 0) _ rfl hd Try.underlying31 rfl (by kernel_rfl)) rfl ?_
  exact ⟨rfl, hbl⟩
set_option maxRecDepth 100000 in
set_option maxHeartbeats 8000000 in
theorem expr_choice_false  (eb : Bool) (en : Int) (s eu ev : ByteArray) (kp : Option Addr) (kn kc : Nat) (hkn : 2 ≤ kn) (w : World)
    (hch : ∀ W, Below w.heap.size w W → Calls Try.prog 12 #[.agg wd0, .agg #[.int .i64 23, .bool eb, .int .i64 en, .string s, .string eu, .string ev, .slice kp kn kc]] W fun e w' => e = .returned (.tuple #[.agg #[.int .i64 1, .bool false, .int .i64 0, .string ⟨#[]⟩, .string ⟨#[]⟩, .string ⟨#[]⟩, .slice none 0 0], .int .i64 0]) ∧ Below W.heap.size W w') :
    Calls Try.prog 9 #[.agg wd0, .agg #[.int .i64 23, .bool eb, .int .i64 en, .string s, .string eu, .string ev, .slice kp kn kc]] w fun e w' => e = .returned (.tuple #[.agg #[.int .i64 1, .bool false, .int .i64 0, .string ⟨#[]⟩, .string ⟨#[]⟩, .string ⟨#[]⟩, .slice none 0 0], .int .i64 0]) ∧ Below w.heap.size w w' := by
  have o5 : ((kn : Int) == 0) = false := beq_eq_false_iff_ne.mpr (by omega)
  have o10 : decide ((kn : Int) < 2) = false := decide_eq_false (by omega)
  unfold wd0 at hch ⊢
  go_enter Try.func9, Try.ntmps9
  go_wp2_with (go_at_call 12; refine (hch _ (by repeat (first | exact Below.refl _ _ | apply below_alloc))).mono ?_; rintro e w1 ⟨rfl, hb⟩; have HB1 : Aside0 (Below w.heap.size w w1) := ⟨below_step (by repeat (first | exact Below.refl _ _ | apply below_alloc)) hb⟩; have HBX1 : Aside0 (Box w1 (w.heap.size + 1 + 1)) := ⟨(hb.block _ (by first | (simp; done) | (simp; omega))).trans (by repeat (first | exact blk_at _ _ _ (by simp; done) | (refine (Below.heap_alloc _ _ _ (by first | (simp; done) | (simp; omega))).trans ?_)))⟩; have r0 := HBX1.out.c0; have r1 := HBX1.out.c1; have r2 := HBX1.out.c2; have r3 := HBX1.out.c3; have r4 := HBX1.out.c4; have r5 := HBX1.out.c5; have r6 := HBX1.out.c6; have r7 := HBX1.out.fr; clear hb)
  (try simp only [Exit.inBlock, Exit.then])
  have hd := HBX1.out.done (.int .i64 1) (.bool false) (.int .i64 0) (.string ⟨#[]⟩) (.string ⟨#[]⟩) (.string ⟨#[]⟩) (.slice none 0 0)
  have hbl := HB1.out.trans (below_cells (B := w.heap.size) (w.heap.size + 1 + 1) (by omega) [.int .i64 1, .bool false, .int .i64 0, .string ⟨#[]⟩, .string ⟨#[]⟩, .string ⟨#[]⟩, .slice none 0 0] 0 w1)
  simp only [World.setCells] at hd hbl
  refine bodyPost_ret (results_row_tmp rfl _ _ (w.heap.size + 1 + 1) 31 _ (0, 0) _ rfl hd Try.underlying31 rfl (by kernel_rfl)) rfl ?_
  exact ⟨rfl, hbl⟩
set_option maxRecDepth 100000 in
set_option maxHeartbeats 8000000 in
theorem expr_if_err (er : Int) (eb : Bool) (en : Int) (s eu ev : ByteArray) (kp : Option Addr) (kn kc : Nat) (hkn : 3 ≤ kn) (w : World)
    (hch : ∀ W, Below w.heap.size w W → Calls Try.prog 12 #[.agg wd0, .agg #[.int .i64 25, .bool eb, .int .i64 en, .string s, .string eu, .string ev, .slice kp kn kc]] W fun e w' => e = .returned (.tuple #[.agg #[.int .i64 0, .bool false, .int .i64 0, .string ⟨#[]⟩, .string ⟨#[]⟩, .string ⟨#[]⟩, .slice none 0 0], .int .i64 er]) ∧ Below W.heap.size W w') :
    Calls Try.prog 9 #[.agg wd0, .agg #[.int .i64 25, .bool eb, .int .i64 en, .string s, .string eu, .string ev, .slice kp kn kc]] w fun e w' => e = .returned (.tuple #[.agg #[.int .i64 0, .bool false, .int .i64 0, .string ⟨#[]⟩, .string ⟨#[]⟩, .string ⟨#[]⟩, .slice none 0 0], .int .i64 er]) ∧ Below w.heap.size w w' := by
  have o5 : ((kn : Int) == 0) = false := beq_eq_false_iff_ne.mpr (by omega)
  have o10 : decide ((kn : Int) < 2) = false := decide_eq_false (by omega)
  have o11 : decide ((kn : Int) < 3) = false := decide_eq_false (by omega)
  unfold wd0 at hch ⊢
  go_enter Try.func9, Try.ntmps9
  go_wp2_with (go_at_call 12; refine (hch _ (by repeat (first | exact Below.refl _ _ | apply below_alloc))).mono ?_; rintro e w1 ⟨rfl, hb⟩; have HB1 : Aside0 (Below w.heap.size w w1) := ⟨below_step (by repeat (first | exact Below.refl _ _ | apply below_alloc)) hb⟩; have HBX1 : Aside0 (Box w1 (w.heap.size + 1 + 1)) := ⟨(hb.block _ (by first | (simp; done) | (simp; omega))).trans (by repeat (first | exact blk_at _ _ _ (by simp; done) | (refine (Below.heap_alloc _ _ _ (by first | (simp; done) | (simp; omega))).trans ?_)))⟩; have r0 := HBX1.out.c0; have r1 := HBX1.out.c1; have r2 := HBX1.out.c2; have r3 := HBX1.out.c3; have r4 := HBX1.out.c4; have r5 := HBX1.out.c5; have r6 := HBX1.out.c6; have r7 := HBX1.out.fr; clear hb)
  (try simp only [Exit.inBlock, Exit.then])
  have hd := HBX1.out.done (.int .i64 0) (.bool false) (.int .i64 0) (.string ⟨#[]⟩) (.string ⟨#[]⟩) (.string ⟨#[]⟩) (.slice none 0 0)
  have hbl := HB1.out.trans (below_cells (B := w.heap.size) (w.heap.size + 1 + 1) (by omega) [.int .i64 0, .bool false, .int .i64 0, .string ⟨#[]⟩, .string ⟨#[]⟩, .string ⟨#[]⟩, .slice none 0 0] 0 w1)
  simp only [World.setCells] at hd hbl
  refine bodyPost_ret (results_row_tmp rfl _ _ (w.heap.size + 1 + 1) 31 _ (0, 0) _ rfl hd Try.underlying31 rfl (by kernel_rfl)) rfl ?_
  exact ⟨rfl, hbl⟩
end Go.Proofs.Ytakkmhcidbamjaa.GV
