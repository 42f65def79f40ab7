import Derived.Test.YtakkmhcidbamjaaProg
import Derived.Below
import Derived.Deep.Draws
import Derived.Deep.AppendLies
import Derived.Maps.AppendAt
import Derived.OwnWalk
import Derived.Laws.BytesArg
import Derived.Laws.MakeOwn
import Derived.Laws.OwnMore
import Derived.Deep.OwnRows
import Derived.Tactics
import Derived.Lib.ConvBytes
import Derived.Laws.Slices
import Derived.WalkKit
import Derived.KernelRfl
import Derived.RowKit3
import Derived.Deep.LoopGhost
import Derived.Deep.QuietTactic
import Derived.BigQuiet
import Derived.WideLaws
import Derived.Deep.DeepCutAuto
import Derived.Deep.CutBlock
import Derived.Deep.RegionHeld3
import Derived.Laws.Rows
import Derived.Lib.AppendStr
import Derived.ArgAppend
import Derived.Laws.IdiomCopy
import Derived.OrdersHeld
import Derived.Laws.BitsLemmas
import Derived.RowKit
import Derived.Test.YtakkmhcidbamjaaHandV
import Derived.Lib.OthersKept
import Derived.Lib.Hide
import Derived.Test.YtakkmhcidbamjaaWWords
import Derived.Test.YtakkmhcidbamjaaWLast
import Derived.Test.YtakkmhcidbamjaaWTab
import Derived.Test.YtakkmhcidbamjaaWFour
import Derived.Test.YtakkmhcidbamjaaWQPut
import Derived.Test.YtakkmhcidbamjaaWApart
import Derived.Test.YtakkmhcidbamjaaGV0
import Derived.Test.YtakkmhcidbamjaaEv2
namespace Go.Proofs.Ytakkmhcidbamjaa.GV
open Go.RowKit Go.Proofs.YtakkmhcidbamjaaW.PrintWords Go.Proofs.YtakkmhcidbamjaaW.PrintLast Go.Proofs.Ytakkmhcidbamjaa.HandV Go.Proofs.YtakkmhcidbamjaaW.PrintMore
attribute [local go_sem] max2_int min2_int max_two min_two max_three min_three max_four min_four   -- for this text's walks alone
/-- The world without entities, and its request of nothing. -/
def wd0 : Array Value := #[.slice none 0 0, .string ⟨#[]⟩, .string ⟨#[]⟩, .string ⟨#[]⟩, .string ⟨#[]⟩, .string ⟨#[]⟩, .string ⟨#[]⟩]
set_option maxRecDepth 100000 in
set_option maxHeartbeats 4000000 in
theorem search0 (f : Value) (w : World) : Calls Try.prog 28 #[.int .i64 0, f] w fun e w' => e = .returned (.int .i64 0) ∧ w = w' := by
  go_enter Try.func28, Try.ntmps28
  go_wp2
  go_loopw [5, 6] (fun v5 v6 wr => v5 = .int .i64 0 ∧ v6 = .int .i64 0 ∧ w = wr) (fun _ _ _ => 0)
  case atStart => exact ⟨rfl, rfl, rfl⟩
  case round =>
    obtain ⟨rfl, rfl, rfl⟩ := hrel
    go_wp2
    go_ret
    exact ⟨rfl, rfl⟩
set_option maxRecDepth 100000 in
set_option maxHeartbeats 4000000 in
theorem at_nil (t i : ByteArray) (w : World) : Calls Try.prog 45 #[.slice none 0 0, .agg #[.string t, .string i]] w fun e w' => e = .returned (.tuple #[.int .i64 0, .bool false]) ∧ Below w.heap.size w w' := by
  go_enter Try.func45, Try.ntmps45
  go_wp2_with (go_at_call 28; refine (search0 _ _).mono ?_; rintro e w1 ⟨rfl, rfl⟩)
  go_quiet ((fail))
  go_wp2
  go_ret2
  exact ⟨rfl, by repeat (first | exact Below.refl _ _ | apply below_alloc | apply pw_below_drewN | apply below_drew1)⟩
theorem hcell {w : World} {b : Nat} {cs : Array Value} {t : TypeId} {fr : Nat × Nat} (h : w.heap[b]? = some (.cells cs t fr)) (j : Nat) (v : Value) (hv : cs[j]? = some v) : w.cell? ⟨b, j, none⟩ = some v := by
  unfold World.cell?
  rw [h]
  exact hv
theorem hfroz {w : World} {b : Nat} {cs : Array Value} {t : TypeId} (h : w.heap[b]? = some (.cells cs t (0, 0))) : ∀ o, w.frozen? ⟨b, o, none⟩ = false := by
  intro o
  unfold World.frozen?
  rw [h]
  simp
set_option maxRecDepth 100000 in
set_option maxHeartbeats 4000000 in
theorem find_nil (t i : ByteArray) (w : World) : Calls Try.prog 32 #[.slice none 0 0, .agg #[.string t, .string i]] w fun e w' => e = .returned (.tuple #[.agg #[.string ⟨#[]⟩, .string ⟨#[]⟩, .slice none 0 0, .slice none 0 0], .bool false]) ∧ Below w.heap.size w w' := by
  have hc := at_nil t i
  go_enter Try.func32, Try.ntmps32
  go_wp2_with (go_at_call 45; refine (hc _).mono ?_; rintro e w1 ⟨rfl, hb⟩; have HB1 : Aside0 (Below w.heap.size w w1) := ⟨below_step (by repeat (first | exact Below.refl _ _ | apply below_alloc)) hb⟩; have HBX : Aside0 (w1.heap[w.heap.size + 1]? = some (.cells #[.string ⟨#[]⟩, .string ⟨#[]⟩, .slice none 0 0, .slice none 0 0] 76 (0, 0))) := ⟨(hb.block _ (by simp)).trans (blk_at _ _ _ (by simp))⟩; have r0 := hcell HBX.out 0 _ rfl; have r1 := hcell HBX.out 1 _ rfl; have r2 := hcell HBX.out 2 _ rfl; have r3 := hcell HBX.out 3 _ rfl; have r7 := hfroz HBX.out; clear hb)
  (try simp only [Exit.inBlock, Exit.then])
  have hd : (w1.setCells (w.heap.size + 1) 0 [.string ⟨#[]⟩, .string ⟨#[]⟩, .slice none 0 0, .slice none 0 0]).heap[w.heap.size + 1]? = some (.cells #[.string ⟨#[]⟩, .string ⟨#[]⟩, .slice none 0 0, .slice none 0 0] 76 (0, 0)) := by
    have := setCells_heap (w.heap.size + 1) 76 (0, 0) [.string ⟨#[]⟩, .string ⟨#[]⟩, .slice none 0 0, .slice none 0 0] 0 w1 _ HBX.out (by decide)
    simpa using this
  have hbl := HB1.out.trans (below_cells (B := w.heap.size) (w.heap.size + 1) (by omega) [.string ⟨#[]⟩, .string ⟨#[]⟩, .slice none 0 0, .slice none 0 0] 0 w1)
  simp only [World.setCells] at hd hbl
  refine bodyPost_ret (results_row_tmp rfl _ _ (w.heap.size + 1) 76 _ (0, 0) _ rfl hd Try.underlying76 rfl (by kernel_rfl)) rfl ?_
  exact ⟨rfl, hbl⟩
set_option maxRecDepth 100000 in
set_option maxHeartbeats 4000000 in
/-- An attribute of an entity that is not there. -/
theorem get_gone (t i s : ByteArray) (w : World) : Calls Try.prog 20 #[.agg wd0, .iface 70 (.agg #[.string t, .string i]), .string s] w fun e w' => e = .returned (.tuple #[.agg #[.int .i64 0, .bool false, .int .i64 0, .string ⟨#[]⟩, .string ⟨#[]⟩, .string ⟨#[]⟩, .slice none 0 0], .int .i64 18]) ∧ Below w.heap.size w w' := by
  have h1 := ta_uid (.agg #[.string t, .string i])
  have hc := find_nil t i
  unfold wd0
  go_enter Try.func20, Try.ntmps20
  go_wp2_with (go_at_call 32; refine (hc _).mono ?_; rintro e w1 ⟨rfl, hb⟩; have HB1 : Aside0 (Below w.heap.size w w1) := ⟨below_step (by repeat (first | exact Below.refl _ _ | apply below_alloc)) hb⟩; have HBX : Aside0 (Box w1 (w.heap.size + 1)) := ⟨(hb.block _ (by simp)).trans (by rw [Below.heap_alloc _ _ _ (by simp)]; exact blk_at _ _ _ (by simp))⟩; have r0 := HBX.out.c0; have r1 := HBX.out.c1; have r2 := HBX.out.c2; have r3 := HBX.out.c3; have r4 := HBX.out.c4; have r5 := HBX.out.c5; have r6 := HBX.out.c6; have r7 := HBX.out.fr; have hsz : w.heap.size + 1 < w1.heap.size := lt_of_heap HBX.out; clear hb)
  (try simp only [Exit.inBlock, Exit.then])
  have hd := HBX.out.done (.int .i64 0) (.bool false) (.int .i64 0) (.string ⟨#[]⟩) (.string ⟨#[]⟩) (.string ⟨#[]⟩) (.slice none 0 0)
  have hbl := HB1.out.trans (below_cells (B := w.heap.size) (w.heap.size + 1) (by omega) [.int .i64 0, .bool false, .int .i64 0, .string ⟨#[]⟩, .string ⟨#[]⟩, .string ⟨#[]⟩, .slice none 0 0] 0 w1)
  simp only [World.setCells] at hd hbl
  refine bodyPost_ret (results_row_tmp rfl _ _ (w.heap.size + 1) 31 _ (0, 0) _ rfl ((Below.heap_alloc _ _ _ (lt_of_heap hd)).trans hd) Try.underlying31 rfl (by kernel_rfl)) rfl ?_
  exact ⟨rfl, below_alloc hbl _⟩
end Go.Proofs.Ytakkmhcidbamjaa.GV
