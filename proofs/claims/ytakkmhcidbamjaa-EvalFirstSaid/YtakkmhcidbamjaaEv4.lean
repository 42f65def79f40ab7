import Derived.Test.YtakkmhcidbamjaaProg
import Derived.Below
import Derived.Deep.Draws
import Derived.Deep.AppendLies
import Derived.Maps.AppendAt
import Derived.OwnWalk
import Derived.Laws.BytesArg
import Derived.Laws.MakeOwn
import Derived.Laws.OwnMore
import Derived.Deep.OwnRows
import Derived.Tactics
import Derived.Lib.ConvBytes
import Derived.Laws.Slices
import Derived.WalkKit
import Derived.KernelRfl
import Derived.RowKit3
import Derived.Deep.LoopGhost
import Derived.Deep.QuietTactic
import Derived.BigQuiet
import Derived.WideLaws
import Derived.Deep.DeepCutAuto
import Derived.Deep.CutBlock
import Derived.Deep.RegionHeld3
import Derived.Laws.Rows
import Derived.Lib.AppendStr
import Derived.ArgAppend
import Derived.Laws.IdiomCopy
import Derived.OrdersHeld
import Derived.Laws.BitsLemmas
import Derived.RowKit
import Derived.Test.YtakkmhcidbamjaaHandV
import Derived.Lib.OthersKept
import Derived.Lib.Hide
import Derived.Test.YtakkmhcidbamjaaWWords
import Derived.Test.YtakkmhcidbamjaaWLast
import Derived.Test.YtakkmhcidbamjaaWTab
import Derived.Test.YtakkmhcidbamjaaWFour
import Derived.Test.YtakkmhcidbamjaaWQPut
import Derived.Test.YtakkmhcidbamjaaWApart
import Derived.Test.YtakkmhcidbamjaaGV0
import Derived.Test.YtakkmhcidbamjaaEv3
namespace Go.Proofs.Ytakkmhcidbamjaa.GV
open Go.RowKit Go.Proofs.YtakkmhcidbamjaaW.PrintWords Go.Proofs.YtakkmhcidbamjaaW.PrintLast Go.Proofs.Ytakkmhcidbamjaa.HandV Go.Proofs.YtakkmhcidbamjaaW.PrintMore
attribute [local go_sem] max2_int min2_int max_two min_two max_three min_three max_four min_four   -- for this text's walks alone
set_option maxRecDepth 100000 in
set_option maxHeartbeats 8000000 in
theorem single_gone (eb : Bool) (en : Int) (s eu ev t i : ByteArray) (kp : Option Addr) (kn kc : Nat) (w : World) : Calls Try.prog 13 #[.agg wd0, .agg #[.int .i64 7, .bool eb, .int .i64 en, .string s, .string eu, .string ev, .slice kp kn kc], .agg #[.int .i64 4, .bool false, .int .i64 0, .string ⟨#[]⟩, .string t, .string i, .slice none 0 0]] w fun e w' => e = .returned (.tuple #[.agg #[.int .i64 0, .bool false, .int .i64 0, .string ⟨#[]⟩, .string ⟨#[]⟩, .string ⟨#[]⟩, .slice none 0 0], .int .i64 18]) ∧ Below w.heap.size w w' := by
  have ho := of_ui t i
  have hg := get_gone t i s
  unfold wd0 at hg ⊢
  go_enter Try.func13, Try.ntmps13
  go_wp2_with (first | (go_at_call 19; refine (ho _).mono ?_; rintro e w1 ⟨rfl, hb⟩; have HB1 : Aside0 (Below w.heap.size w w1) := ⟨below_step (by repeat (first | exact Below.refl _ _ | apply below_alloc)) hb⟩; have HBX1 : Aside0 (Box w1 (w.heap.size + 3)) := ⟨(hb.block _ (by first | (simp; done) | (simp; omega))).trans (by repeat (first | exact blk_at _ _ _ (by simp; done) | (refine (Below.heap_alloc _ _ _ (by first | (simp; done) | (simp; omega))).trans ?_)))⟩; have GW1 : Aside0 (w1.heap[w.heap.size]? = some (.cells #[.slice none 0 0, .string ⟨#[]⟩, .string ⟨#[]⟩, .string ⟨#[]⟩, .string ⟨#[]⟩, .string ⟨#[]⟩, .string ⟨#[]⟩] 43 (0, 0))) := ⟨(hb.block _ (by first | (simp; done) | (simp; omega))).trans (by repeat (first | exact blk_at _ _ _ (by simp; done) | (refine (Below.heap_alloc _ _ _ (by first | (simp; done) | (simp; omega))).trans ?_)))⟩; have gw1_0 := hcell GW1.out 0 _ rfl; have gw1_1 := hcell GW1.out 1 _ rfl; have gw1_2 := hcell GW1.out 2 _ rfl; have gw1_3 := hcell GW1.out 3 _ rfl; have gw1_4 := hcell GW1.out 4 _ rfl; have gw1_5 := hcell GW1.out 5 _ rfl; have gw1_6 := hcell GW1.out 6 _ rfl; have GE1 : Aside0 (w1.heap[w.heap.size + 1]? = some (.cells #[.int .i64 7, .bool eb, .int .i64 en, .string s, .string eu, .string ev, .slice kp kn kc] 28 (0, 0))) := ⟨(hb.block _ (by first | (simp; done) | (simp; omega))).trans (by repeat (first | exact blk_at _ _ _ (by simp; done) | (refine (Below.heap_alloc _ _ _ (by first | (simp; done) | (simp; omega))).trans ?_)))⟩; have ge1_0 := hcell GE1.out 0 _ rfl; have ge1_1 := hcell GE1.out 1 _ rfl; have ge1_2 := hcell GE1.out 2 _ rfl; have ge1_3 := hcell GE1.out 3 _ rfl; have ge1_4 := hcell GE1.out 4 _ rfl; have ge1_5 := hcell GE1.out 5 _ rfl; have ge1_6 := hcell GE1.out 6 _ rfl; clear hb) | (go_at_call 20; refine (hg _).mono ?_; rintro e w2 ⟨rfl, hb⟩; have HB2 : Aside0 (Below w.heap.size w w2) := ⟨below_step (by repeat (first | exact HB1.out | apply below_alloc)) hb⟩; have HBX2 := Aside0.mk (HBX1.out.mono hb); have r0 := HBX2.out.c0; have r1 := HBX2.out.c1; have r2 := HBX2.out.c2; have r3 := HBX2.out.c3; have r4 := HBX2.out.c4; have r5 := HBX2.out.c5; have r6 := HBX2.out.c6; have r7 := HBX2.out.fr; clear hb))
  (try simp only [Exit.inBlock, Exit.then])
  have hd := HBX2.out.done (.int .i64 0) (.bool false) (.int .i64 0) (.string ⟨#[]⟩) (.string ⟨#[]⟩) (.string ⟨#[]⟩) (.slice none 0 0)
  have hbl := HB2.out.trans (below_cells (B := w.heap.size) (w.heap.size + 3) (by omega) [.int .i64 0, .bool false, .int .i64 0, .string ⟨#[]⟩, .string ⟨#[]⟩, .string ⟨#[]⟩, .slice none 0 0] 0 w2)
  simp only [World.setCells] at hd hbl
  refine bodyPost_ret (results_row_tmp rfl _ _ (w.heap.size + 3) 31 _ (0, 0) _ rfl hd Try.underlying31 rfl (by kernel_rfl)) rfl ?_
  exact ⟨rfl, hbl⟩
set_option maxRecDepth 100000 in
set_option maxHeartbeats 8000000 in
theorem single_not (eb : Bool) (en n : Int) (s eu ev : ByteArray) (kp : Option Addr) (kn kc : Nat) (w : World) : Calls Try.prog 13 #[.agg wd0, .agg #[.int .i64 11, .bool eb, .int .i64 en, .string s, .string eu, .string ev, .slice kp kn kc], .agg #[.int .i64 2, .bool false, .int .i64 n, .string ⟨#[]⟩, .string ⟨#[]⟩, .string ⟨#[]⟩, .slice none 0 0]] w fun e w' => e = .returned (.tuple #[.agg #[.int .i64 0, .bool false, .int .i64 0, .string ⟨#[]⟩, .string ⟨#[]⟩, .string ⟨#[]⟩, .slice none 0 0], .int .i64 16]) ∧ Below w.heap.size w w' := by
  have ho := of_nu n
  have h1 := ta_number_truth (.int .i64 n)
  unfold wd0
  go_enter Try.func13, Try.ntmps13
  go_wp2_with ((go_at_call 19; refine (ho _).mono ?_; rintro e w1 ⟨rfl, hb⟩; have HB1 : Aside0 (Below w.heap.size w w1) := ⟨below_step (by repeat (first | exact Below.refl _ _ | apply below_alloc)) hb⟩; have HBX1 : Aside0 (Box w1 (w.heap.size + 3)) := ⟨(hb.block _ (by first | (simp; done) | (simp; omega))).trans (by repeat (first | exact blk_at _ _ _ (by simp; done) | (refine (Below.heap_alloc _ _ _ (by first | (simp; done) | (simp; omega))).trans ?_)))⟩; have r0 := HBX1.out.c0; have r1 := HBX1.out.c1; have r2 := HBX1.out.c2; have r3 := HBX1.out.c3; have r4 := HBX1.out.c4; have r5 := HBX1.out.c5; have r6 := HBX1.out.c6; have r7 := HBX1.out.fr; have GE1 : Aside0 (w1.heap[w.heap.size + 1]? = some (.cells #[.int .i64 11, .bool eb, .int .i64 en, .string s, .string eu, .string ev, .slice kp kn kc] 28 (0, 0))) := ⟨(hb.block _ (by first | (simp; done) | (simp; omega))).trans (by repeat (first | exact blk_at _ _ _ (by simp; done) | (refine (Below.heap_alloc _ _ _ (by first | (simp; done) | (simp; omega))).trans ?_)))⟩; have ge1_0 := hcell GE1.out 0 _ rfl; have ge1_1 := hcell GE1.out 1 _ rfl; have ge1_2 := hcell GE1.out 2 _ rfl; have ge1_3 := hcell GE1.out 3 _ rfl; have ge1_4 := hcell GE1.out 4 _ rfl; have ge1_5 := hcell GE1.out 5 _ rfl; have ge1_6 := hcell GE1.out 6 _ rfl; clear hb))
  (try simp only [Exit.inBlock, Exit.then])
  have hd := HBX1.out.done (.int .i64 0) (.bool false) (.int .i64 0) (.string ⟨#[]⟩) (.string ⟨#[]⟩) (.string ⟨#[]⟩) (.slice none 0 0)
  have hbl := HB1.out.trans (below_cells (B := w.heap.size) (w.heap.size + 3) (by omega) [.int .i64 0, .bool false, .int .i64 0, .string ⟨#[]⟩, .string ⟨#[]⟩, .string ⟨#[]⟩, .slice none 0 0] 0 w1)
  simp only [World.setCells] at hd hbl
  refine bodyPost_ret (results_row_tmp rfl _ _ (w.heap.size + 3) 31 _ (0, 0) _ rfl hd Try.underlying31 rfl (by kernel_rfl)) rfl ?_
  exact ⟨rfl, hbl⟩
end Go.Proofs.Ytakkmhcidbamjaa.GV
