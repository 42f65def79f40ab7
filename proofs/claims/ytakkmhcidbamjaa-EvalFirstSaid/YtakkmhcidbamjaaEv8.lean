import Derived.Test.YtakkmhcidbamjaaProg
import Derived.Below
import Derived.Deep.Draws
import Derived.Deep.AppendLies
import Derived.Maps.AppendAt
import Derived.OwnWalk
import Derived.Laws.BytesArg
import Derived.Laws.MakeOwn
import Derived.Laws.OwnMore
import Derived.Deep.OwnRows
import Derived.Tactics
import Derived.Lib.ConvBytes
import Derived.Laws.Slices
import Derived.WalkKit
import Derived.KernelRfl
import Derived.RowKit3
import Derived.Deep.LoopGhost
import Derived.Deep.QuietTactic
import Derived.BigQuiet
import Derived.WideLaws
import Derived.Deep.DeepCutAuto
import Derived.Deep.CutBlock
import Derived.Deep.RegionHeld3
import Derived.Laws.Rows
import Derived.Lib.AppendStr
import Derived.ArgAppend
import Derived.Laws.IdiomCopy
import Derived.OrdersHeld
import Derived.Laws.BitsLemmas
import Derived.RowKit
import Derived.Test.YtakkmhcidbamjaaHandV
import Derived.Lib.OthersKept
import Derived.Lib.Hide
import Derived.Test.YtakkmhcidbamjaaWWords
import Derived.Test.YtakkmhcidbamjaaWLast
import Derived.Test.YtakkmhcidbamjaaWTab
import Derived.Test.YtakkmhcidbamjaaWFour
import Derived.Test.YtakkmhcidbamjaaWQPut
import Derived.Test.YtakkmhcidbamjaaWApart
import Derived.Test.YtakkmhcidbamjaaGV0
import Derived.Test.YtakkmhcidbamjaaEv7
namespace Go.Proofs.Ytakkmhcidbamjaa.GV
open Go.RowKit Go.Proofs.YtakkmhcidbamjaaW.PrintWords Go.Proofs.YtakkmhcidbamjaaW.PrintLast Go.Proofs.Ytakkmhcidbamjaa.HandV Go.Proofs.YtakkmhcidbamjaaW.PrintMore
attribute [local go_sem] max2_int min2_int max_two min_two max_three min_three max_four min_four   -- for this text's walks alone
theorem ta_truth1 (x : Value) (w : World) : Sem.run Try.prog (Instr.typeAssert (.iface 53 x) 20 53 false) w = .ok x w := by simp [Instr.typeAssert, go_sem]
set_option maxRecDepth 100000 in
set_option maxHeartbeats 8000000 in
theorem asked_err (er : Int) (her : er ≠ 0) (op : Int) (eb : Bool) (en : Int) (s eu ev : ByteArray) (kp : Option Addr) (kn kc : Nat) (w : World) (hkid : ∀ W, Below w.heap.size w W → Calls Try.prog 9 #[.agg wd0, .agg #[.int .i64 op, .bool eb, .int .i64 en, .string s, .string eu, .string ev, .slice kp kn kc]] W fun e w' => e = .returned (.tuple #[.agg #[.int .i64 0, .bool false, .int .i64 0, .string ⟨#[]⟩, .string ⟨#[]⟩, .string ⟨#[]⟩, .slice none 0 0], .int .i64 er]) ∧ Below W.heap.size W w') : Calls Try.prog 16 #[.agg wd0, .agg #[.int .i64 op, .bool eb, .int .i64 en, .string s, .string eu, .string ev, .slice kp kn kc]] w fun e w' => e = .returned (.tuple #[.bool false, .int .i64 er]) ∧ Below w.heap.size w w' := by
  have o6 : (er != 0) = true := bne_iff_ne.mpr her
  unfold wd0 at hkid ⊢
  go_enter Try.func16, Try.ntmps16
  go_wp2_with (go_at_call 9; refine (hkid _ (by repeat (first | exact Below.refl _ _ | apply below_alloc))).mono ?_; rintro e w1 ⟨rfl, hb⟩; have HB : Aside0 (Below w.heap.size w w1) := ⟨below_step (by repeat (first | exact Below.refl _ _ | apply below_alloc)) hb⟩; clear hb)
  go_ret2
  exact ⟨rfl, below_alloc HB.out _⟩
set_option maxRecDepth 100000 in
set_option maxHeartbeats 8000000 in
theorem asked_ok (b : Bool) (op : Int) (eb : Bool) (en : Int) (s eu ev : ByteArray) (kp : Option Addr) (kn kc : Nat) (w : World) (hkid : ∀ W, Below w.heap.size w W → Calls Try.prog 9 #[.agg wd0, .agg #[.int .i64 op, .bool eb, .int .i64 en, .string s, .string eu, .string ev, .slice kp kn kc]] W fun e w' => e = .returned (.tuple #[.agg #[.int .i64 1, .bool b, .int .i64 0, .string ⟨#[]⟩, .string ⟨#[]⟩, .string ⟨#[]⟩, .slice none 0 0], .int .i64 0]) ∧ Below W.heap.size W w') : Calls Try.prog 16 #[.agg wd0, .agg #[.int .i64 op, .bool eb, .int .i64 en, .string s, .string eu, .string ev, .slice kp kn kc]] w fun e w' => e = .returned (.tuple #[.bool b, .int .i64 0]) ∧ Below w.heap.size w w' := by
  have ho := of_tr b
  have ht := ta_truth1 (.bool b)
  unfold wd0 at hkid ⊢
  go_enter Try.func16, Try.ntmps16
  go_wp2_with (first | (go_at_call 9; refine (hkid _ (by repeat (first | exact Below.refl _ _ | apply below_alloc))).mono ?_; rintro e w1 ⟨rfl, hb⟩; have HB : Aside0 (Below w.heap.size w w1) := ⟨below_step (by repeat (first | exact Below.refl _ _ | apply below_alloc)) hb⟩; clear hb) | (go_at_call 19; refine (ho _).mono ?_; rintro e w2 ⟨rfl, hb⟩; have HB2 : Aside0 (Below w.heap.size w w2) := ⟨below_step (below_alloc HB.out _) hb⟩; clear hb))
  go_ret2
  exact ⟨rfl, HB2.out⟩
end Go.Proofs.Ytakkmhcidbamjaa.GV
