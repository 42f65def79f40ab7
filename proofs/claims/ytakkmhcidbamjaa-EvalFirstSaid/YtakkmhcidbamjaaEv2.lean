import Derived.Test.YtakkmhcidbamjaaProg
import Derived.Below
import Derived.Deep.Draws
import Derived.Deep.AppendLies
import Derived.Maps.AppendAt
import Derived.OwnWalk
import Derived.Laws.BytesArg
import Derived.Laws.MakeOwn
import Derived.Laws.OwnMore
import Derived.Deep.OwnRows
import Derived.Tactics
import Derived.Lib.ConvBytes
import Derived.Laws.Slices
import Derived.WalkKit
import Derived.KernelRfl
import Derived.RowKit3
import Derived.Deep.LoopGhost
import Derived.Deep.QuietTactic
import Derived.BigQuiet
import Derived.WideLaws
import Derived.Deep.DeepCutAuto
import Derived.Deep.CutBlock
import Derived.Deep.RegionHeld3
import Derived.Laws.Rows
import Derived.Lib.AppendStr
import Derived.ArgAppend
import Derived.Laws.IdiomCopy
import Derived.OrdersHeld
import Derived.Laws.BitsLemmas
import Derived.RowKit
import Derived.Test.YtakkmhcidbamjaaHandV
import Derived.Lib.OthersKept
import Derived.Lib.Hide
import Derived.Test.YtakkmhcidbamjaaWWords
import Derived.Test.YtakkmhcidbamjaaWLast
import Derived.Test.YtakkmhcidbamjaaWTab
import Derived.Test.YtakkmhcidbamjaaWFour
import Derived.Test.YtakkmhcidbamjaaWQPut
import Derived.Test.YtakkmhcidbamjaaWApart
import Derived.Test.YtakkmhcidbamjaaGV0
import Derived.Test.YtakkmhcidbamjaaEv1
namespace Go.Proofs.Ytakkmhcidbamjaa.GV
open Go.RowKit Go.Proofs.YtakkmhcidbamjaaW.PrintWords Go.Proofs.YtakkmhcidbamjaaW.PrintLast Go.Proofs.Ytakkmhcidbamjaa.HandV Go.Proofs.YtakkmhcidbamjaaW.PrintMore
attribute [local go_sem] max2_int min2_int max_two min_two max_three min_three max_four min_four   -- for this text's walks alone
theorem ta_number_truth2 (x : Bool) (w : World) : Sem.run Try.prog (Instr.typeAssert (.iface 53 (.bool x)) 20 61 true) w = .ok (.tuple #[.int .i64 0, .bool false]) w := ta_truth_number _ w
set_option maxRecDepth 100000 in
set_option maxHeartbeats 4000000 in
theorem numbers_type (op n : Int) (b : Bool) (w : World) : Calls Try.prog 27 #[.int .i64 op, .iface 61 (.int .i64 n), .iface 53 (.bool b)] w fun e w' => e = .returned (.tuple #[.agg #[.int .i64 0, .bool false, .int .i64 0, .string ⟨#[]⟩, .string ⟨#[]⟩, .string ⟨#[]⟩, .slice none 0 0], .int .i64 16]) ∧ Below w.heap.size w w' := by
  have h2 := ta_number (.int .i64 n)
  have h3 := ta_truth_number (.bool b)
  go_enter Try.func27, Try.ntmps27
  go_wp2
  (try simp only [Exit.inBlock, Exit.then])
  refine bodyPost_ret (results_row_tmp rfl _ _ w.heap.size 31 _ (0, 0) _ rfl (blk_new _ _) Try.underlying31 rfl (by kernel_rfl)) rfl ?_
  exact ⟨rfl, below_alloc (Below.refl _ _) _⟩
set_option maxRecDepth 100000 in
set_option maxHeartbeats 4000000 in
theorem numbers_add_err (n m c e : Int) (he : e ≠ 0) (h : num_Add.f n m = some (c, e)) (w : World) : Calls Try.prog 27 #[.int .i64 14, .iface 61 (.int .i64 n), .iface 61 (.int .i64 m)] w fun en w' => en = .returned (.tuple #[.agg #[.int .i64 0, .bool false, .int .i64 0, .string ⟨#[]⟩, .string ⟨#[]⟩, .string ⟨#[]⟩, .slice none 0 0], .int .i64 e]) ∧ Below w.heap.size w w' := by
  have h2 := ta_number (.int .i64 n)
  have h3 := ta_number (.int .i64 m)
  have hc := fun W => num_Add.calls n m c e W h
  have ht := told_err (.iface 61 (.int .i64 c)) e he
  have hbx : Box (w.alloc (.cells #[.int .i64 0, .bool false, .int .i64 0, .string ⟨#[]⟩, .string ⟨#[]⟩, .string ⟨#[]⟩, .slice none 0 0] 31)) w.heap.size := blk_new _ _
  have HBX := Aside0.mk hbx
  clear hbx h
  go_enter Try.func27, Try.ntmps27
  go_wp2_with (first | (go_at_call 42; refine (hc _).mono ?_; rintro en w1 ⟨rfl, hd⟩; have HB1 : Aside0 (Below w.heap.size w w1) := ⟨(below_alloc (Below.refl _ _) _).trans (hd.below.mono (by simp))⟩; have HBX1 := Aside0.mk (HBX.out.mono hd.below); clear hd) | (go_at_call 18; refine (ht _).mono ?_; rintro en w2 ⟨rfl, hb⟩; have HB2 : Aside0 (Below w.heap.size w w2) := ⟨below_step HB1.out hb⟩; have HBX2 := Aside0.mk (HBX1.out.mono hb); have r0 := HBX2.out.c0; have r1 := HBX2.out.c1; have r2 := HBX2.out.c2; have r3 := HBX2.out.c3; have r4 := HBX2.out.c4; have r5 := HBX2.out.c5; have r6 := HBX2.out.c6; have r7 := HBX2.out.fr; clear hb))
  (try simp only [Exit.inBlock, Exit.then])
  have hd := HBX2.out.done (.int .i64 0) (.bool false) (.int .i64 0) (.string ⟨#[]⟩) (.string ⟨#[]⟩) (.string ⟨#[]⟩) (.slice none 0 0)
  have hbl := HB2.out.trans (below_cells (B := w.heap.size) w.heap.size (Nat.le_refl _) [.int .i64 0, .bool false, .int .i64 0, .string ⟨#[]⟩, .string ⟨#[]⟩, .string ⟨#[]⟩, .slice none 0 0] 0 w2)
  simp only [World.setCells] at hd hbl
  refine bodyPost_ret (results_row_tmp rfl _ _ w.heap.size 31 _ (0, 0) _ rfl hd Try.underlying31 rfl (by kernel_rfl)) rfl ?_
  exact ⟨rfl, hbl⟩
end Go.Proofs.Ytakkmhcidbamjaa.GV
