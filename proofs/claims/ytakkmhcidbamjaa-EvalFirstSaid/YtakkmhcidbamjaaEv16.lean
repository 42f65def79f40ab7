import Derived.Test.YtakkmhcidbamjaaProg
import Derived.Below
import Derived.Deep.Draws
import Derived.Deep.AppendLies
import Derived.Maps.AppendAt
import Derived.OwnWalk
import Derived.Laws.BytesArg
import Derived.Laws.MakeOwn
import Derived.Laws.OwnMore
import Derived.Deep.OwnRows
import Derived.Tactics
import Derived.Lib.ConvBytes
import Derived.Laws.Slices
import Derived.WalkKit
import Derived.KernelRfl
import Derived.RowKit3
import Derived.Deep.LoopGhost
import Derived.Deep.QuietTactic
import Derived.BigQuiet
import Derived.WideLaws
import Derived.Deep.DeepCutAuto
import Derived.Deep.CutBlock
import Derived.Deep.RegionHeld3
import Derived.Laws.Rows
import Derived.Lib.AppendStr
import Derived.ArgAppend
import Derived.Laws.IdiomCopy
import Derived.OrdersHeld
import Derived.Laws.BitsLemmas
import Derived.RowKit
import Derived.Test.YtakkmhcidbamjaaHandV
import Derived.Lib.OthersKept
import Derived.Lib.Hide
import Derived.Test.YtakkmhcidbamjaaWWords
import Derived.Test.YtakkmhcidbamjaaWLast
import Derived.Test.YtakkmhcidbamjaaWTab
import Derived.Test.YtakkmhcidbamjaaWFour
import Derived.Test.YtakkmhcidbamjaaWQPut
import Derived.Test.YtakkmhcidbamjaaWApart
import Derived.Test.YtakkmhcidbamjaaGV0
import Derived.Test.YtakkmhcidbamjaaEv15
import Derived.Deep.RegionWith
namespace Go.Proofs.Ytakkmhcidbamjaa.GV
open Go.RowKit Go.Proofs.YtakkmhcidbamjaaW.PrintWords Go.Proofs.YtakkmhcidbamjaaW.PrintLast Go.Proofs.Ytakkmhcidbamjaa.HandV Go.Proofs.YtakkmhcidbamjaaW.PrintMore
attribute [local go_sem] max2_int min2_int max_two min_two max_three min_three max_four min_four   -- for this text's walks alone
set_option maxRecDepth 100000 in
set_option maxHeartbeats 8000000 in
/-- chancellaw13.known is true. -/
theorem known_calls (w : World) : Calls Try.prog 5 #[] w fun e w' => e = .returned (.bool true) ∧ Below w.heap.size w w' := by
  have hA : ∀ (gk : Nat) (r0 r1 r2 r3 r4 r5 r6 : Value) (W : World), W.heap[gk]? = some (.cells #[.int .i64 1, .bool false, .int .i64 0, .string ⟨#[]⟩, .string ⟨#[]⟩, .string ⟨#[]⟩, .slice none 0 0, r0, r1, r2, r3, r4, r5, r6] 28 (0, 0)) → Calls Try.prog 7 #[.slice none 0 0, .agg #[.string ⟨#[]⟩, .string ⟨#[]⟩, .string ⟨#[]⟩, .string ⟨#[]⟩, .string ⟨#[]⟩, .string ⟨#[]⟩], .agg #[.int .i64 23, .bool false, .int .i64 0, .string ⟨#[]⟩, .string ⟨#[]⟩, .string ⟨#[]⟩, .slice (some ⟨gk, 0, none⟩) 2 2]] W fun e w' => e = .returned (.tuple #[.agg #[.int .i64 1, .bool false, .int .i64 0, .string ⟨#[]⟩, .string ⟨#[]⟩, .string ⟨#[]⟩, .slice none 0 0], .int .i64 0]) ∧ Below W.heap.size W w' :=
    fun gk r0 r1 r2 r3 r4 r5 r6 W h => Expr_false 23 false 0 _ _ _ (some ⟨gk, 0, none⟩) 2 2 W (fun W2 hW => and_false_heap gk 2 r0 r1 r2 r3 r4 r5 r6 (0, 0) W2 ((hW.block gk (lt_of_heap h)).trans h))
  have hB : ∀ (gk : Nat) (W : World), W.heap[gk]? = some (.cells #[.int .i64 2, .bool false, .int .i64 1, .string ⟨#[]⟩, .string ⟨#[]⟩, .string ⟨#[]⟩, .slice none 0 0, .int .i64 1, .bool true, .int .i64 0, .string ⟨#[]⟩, .string ⟨#[]⟩, .string ⟨#[]⟩, .slice none 0 0] 28 (0, 0)) → Calls Try.prog 7 #[.slice none 0 0, .agg #[.string ⟨#[]⟩, .string ⟨#[]⟩, .string ⟨#[]⟩, .string ⟨#[]⟩, .string ⟨#[]⟩, .string ⟨#[]⟩], .agg #[.int .i64 14, .bool false, .int .i64 0, .string ⟨#[]⟩, .string ⟨#[]⟩, .string ⟨#[]⟩, .slice (some ⟨gk, 0, none⟩) 2 2]] W fun e w' => e = .returned (.tuple #[.agg #[.int .i64 0, .bool false, .int .i64 0, .string ⟨#[]⟩, .string ⟨#[]⟩, .string ⟨#[]⟩, .slice none 0 0], .int .i64 16]) ∧ Below W.heap.size W w' :=
    fun gk W h => Expr_err 16 14 false 0 _ _ _ (some ⟨gk, 0, none⟩) 2 2 W (fun W2 hW => bad_heap gk 2 (0, 0) W2 ((hW.block gk (lt_of_heap h)).trans h))
  go_enter Try.func5, Try.ntmps5
  go_wp2_with (first | (go_at_call_of 7 (Value.int IntKind.i64 23); refine (hA _ _ _ _ _ _ _ _ _ (blk_at _ _ _ (by simp))).mono ?_; rintro e w1 ⟨rfl, hb⟩; have HB1 : Aside0 (Below w.heap.size w w1) := ⟨below_step (by repeat (first | exact Below.refl _ _ | apply below_alloc)) hb⟩; have HE1 : Aside0 (w1.heap[w.heap.size + 1 + 1]? = some (.cells #[.int .i64 14, .bool false, .int .i64 0, .string ⟨#[]⟩, .string ⟨#[]⟩, .string ⟨#[]⟩, .slice (some ⟨w.heap.size + 1, 0, none⟩) 2 2] 28 (0, 0))) := ⟨(hb.block _ (by first | (simp; done) | (simp; omega))).trans (by repeat (first | exact blk_at _ _ _ (by simp; done) | (refine (Below.heap_alloc _ _ _ (by first | (simp; done) | (simp; omega))).trans ?_)))⟩; have HK1 : Aside0 (w1.heap[w.heap.size + 1]? = some (.cells #[.int .i64 2, .bool false, .int .i64 1, .string ⟨#[]⟩, .string ⟨#[]⟩, .string ⟨#[]⟩, .slice none 0 0, .int .i64 1, .bool true, .int .i64 0, .string ⟨#[]⟩, .string ⟨#[]⟩, .string ⟨#[]⟩, .slice none 0 0] 28 (0, 0))) := ⟨(hb.block _ (by first | (simp; done) | (simp; omega))).trans (by repeat (first | exact blk_at _ _ _ (by simp; done) | (refine (Below.heap_alloc _ _ _ (by first | (simp; done) | (simp; omega))).trans ?_)))⟩; have e0 := hcell HE1.out 0 _ rfl; have e1 := hcell HE1.out 1 _ rfl; have e2 := hcell HE1.out 2 _ rfl; have e3 := hcell HE1.out 3 _ rfl; have e4 := hcell HE1.out 4 _ rfl; have e5 := hcell HE1.out 5 _ rfl; have e6 := hcell HE1.out 6 _ rfl; have hsz := lt_of_heap HE1.out; clear hb) | (go_at_call_of 7 (Value.int IntKind.i64 14); refine (hB _ _ ((Below.heap_alloc _ _ _ (lt_of_heap HK1.out)).trans HK1.out)).mono ?_; rintro e w2 ⟨rfl, hb⟩; have HB2 : Aside0 (Below w.heap.size w w2) := ⟨below_step (below_alloc HB1.out _) hb⟩; have v0 : w2.cell? ⟨w1.heap.size, 0, none⟩ = some (Value.int .i64 1) := (hb.cell (p := ⟨w1.heap.size, 0, none⟩) (by simp)).trans (by go_simp); have v1 : w2.cell? ⟨w1.heap.size, 1, none⟩ = some (Value.bool false) := (hb.cell (p := ⟨w1.heap.size, 1, none⟩) (by simp)).trans (by go_simp); have hs2 : w1.heap.size < w2.heap.size := World.block_lt_of_cell? _ _ v0; clear hb))
  go_ret
  exact ⟨rfl, below_alloc HB2.out _⟩
end Go.Proofs.Ytakkmhcidbamjaa.GV
