import Derived.Test.YtnjlggpidkbjcaaProg
import Derived.Below
import Derived.Deep.Draws
import Derived.Deep.AppendLies
import Derived.Maps.AppendAt
import Derived.OwnWalk
import Derived.Laws.BytesArg
import Derived.Laws.MakeOwn
import Derived.Laws.OwnMore
import Derived.Deep.OwnRows
import Derived.Tactics
import Derived.Lib.ConvBytes
import Derived.Laws.Slices
import Derived.WalkKit
import Derived.KernelRfl
import Derived.RowKit3
import Derived.Deep.LoopGhost
import Derived.Deep.QuietTactic
import Derived.BigQuiet
import Derived.WideLaws
import Derived.Deep.DeepCutAuto
import Derived.Deep.CutBlock
import Derived.Deep.RegionHeld3
import Derived.Laws.Rows
import Derived.Lib.AppendStr
import Derived.ArgAppend
import Derived.Laws.IdiomCopy
import Derived.OrdersHeld
import Derived.Laws.BitsLemmas
import Derived.RowKit
import Derived.Test.YtnjlggpidkbjcaaHandV
import Derived.Test.YtnjlggpidkbjcaaWWords
import Derived.Test.YtnjlggpidkbjcaaWLast
import Derived.Test.YtnjlggpidkbjcaaWTab
import Derived.Test.YtnjlggpidkbjcaaWFour
import Derived.Test.YtnjlggpidkbjcaaWQPut
import Derived.Test.YtnjlggpidkbjcaaWApart
import Derived.Test.YtnjlggpidkbjcaaWArr
import Derived.Test.YtnjlggpidkbjcaaWZeros
import Derived.Test.YtnjlggpidkbjcaaGV0
import Derived.Test.YtnjlggpidkbjcaaVCmp
namespace Go.Proofs.Ytnjlggpidkbjcaa.GV
open Go.RowKit Go.Proofs.YtnjlggpidkbjcaaW.PrintWords Go.Proofs.YtnjlggpidkbjcaaW.PrintLast Go.Proofs.Ytnjlggpidkbjcaa.HandV Go.Proofs.YtnjlggpidkbjcaaW.PrintMore
attribute [local go_sem] max2_int min2_int max_two min_two max_three min_three max_four min_four   -- for this text's walks alone
set_option maxRecDepth 100000 in
theorem same1 (x y : Bool) (A B : Option Addr) (cA cB : Nat) (w : World) :
    Calls Try.prog 13 #[.agg #[.int .i64 1, .bool x, .int .i64 0, .string ⟨#[]⟩, .string ⟨#[]⟩, .string ⟨#[]⟩, .slice A 0 cA], .agg #[.int .i64 1, .bool y, .int .i64 0, .string ⟨#[]⟩, .string ⟨#[]⟩, .string ⟨#[]⟩, .slice B 0 cB]] w fun e w' => e = .returned (.bool (cmpB x y == 0)) ∧ Below w.heap.size w w' := by
  have HB := Aside0.mk (Below.refl w.heap.size w)
  generalize hc : cmpB x y = c
  go_enter Try.func13, Try.ntmps13
  go_wp2_with (go_at_call 30; refine (compare1 _ _ _ _ _ _ _).mono ?_; rintro e w' ⟨rfl, hb⟩; rw [hc]; have n1_ := Aside0.mk (below_step (by repeat (first | (with_reducible first | exact HB.out | apply below_alloc | apply pw_below_drewN | apply below_drew1) | exact HB.out)) hb); clear HB; have HB := n1_; clear n1_ hb)
  go_ret
  exact ⟨by first | rfl | simp, by repeat (first | (with_reducible first | exact HB.out | apply below_alloc | apply pw_below_drewN | apply below_drew1) | exact HB.out)⟩
set_option maxRecDepth 100000 in
theorem same2 (x y : Int) (A B : Option Addr) (cA cB : Nat) (w : World) :
    Calls Try.prog 13 #[.agg #[.int .i64 2, .bool false, .int .i64 x, .string ⟨#[]⟩, .string ⟨#[]⟩, .string ⟨#[]⟩, .slice A 0 cA], .agg #[.int .i64 2, .bool false, .int .i64 y, .string ⟨#[]⟩, .string ⟨#[]⟩, .string ⟨#[]⟩, .slice B 0 cB]] w fun e w' => e = .returned (.bool (cmpI x y == 0)) ∧ Below w.heap.size w w' := by
  have HB := Aside0.mk (Below.refl w.heap.size w)
  generalize hc : cmpI x y = c
  go_enter Try.func13, Try.ntmps13
  go_wp2_with (go_at_call 30; refine (compare2 _ _ _ _ _ _ _).mono ?_; rintro e w' ⟨rfl, hb⟩; rw [hc]; have n1_ := Aside0.mk (below_step (by repeat (first | (with_reducible first | exact HB.out | apply below_alloc | apply pw_below_drewN | apply below_drew1) | exact HB.out)) hb); clear HB; have HB := n1_; clear n1_ hb)
  go_ret
  exact ⟨by first | rfl | simp, by repeat (first | (with_reducible first | exact HB.out | apply below_alloc | apply pw_below_drewN | apply below_drew1) | exact HB.out)⟩
set_option maxRecDepth 100000 in
theorem same3 (x y : ByteArray) (A B : Option Addr) (cA cB : Nat) (w : World) :
    Calls Try.prog 13 #[.agg #[.int .i64 3, .bool false, .int .i64 0, .string x, .string ⟨#[]⟩, .string ⟨#[]⟩, .slice A 0 cA], .agg #[.int .i64 3, .bool false, .int .i64 0, .string y, .string ⟨#[]⟩, .string ⟨#[]⟩, .slice B 0 cB]] w fun e w' => e = .returned (.bool (cmpS x y == 0)) ∧ Below w.heap.size w w' := by
  have HB := Aside0.mk (Below.refl w.heap.size w)
  generalize hc : cmpS x y = c
  go_enter Try.func13, Try.ntmps13
  go_wp2_with (go_at_call 30; refine (compare3 _ _ _ _ _ _ _).mono ?_; rintro e w' ⟨rfl, hb⟩; rw [hc]; have n1_ := Aside0.mk (below_step (by repeat (first | (with_reducible first | exact HB.out | apply below_alloc | apply pw_below_drewN | apply below_drew1) | exact HB.out)) hb); clear HB; have HB := n1_; clear n1_ hb)
  go_ret
  exact ⟨by first | rfl | simp, by repeat (first | (with_reducible first | exact HB.out | apply below_alloc | apply pw_below_drewN | apply below_drew1) | exact HB.out)⟩
set_option maxRecDepth 100000 in
theorem less1 (x y : Bool) (A B : Option Addr) (cA cB : Nat) (w : World) :
    Calls Try.prog 12 #[.agg #[.int .i64 1, .bool x, .int .i64 0, .string ⟨#[]⟩, .string ⟨#[]⟩, .string ⟨#[]⟩, .slice A 0 cA], .agg #[.int .i64 1, .bool y, .int .i64 0, .string ⟨#[]⟩, .string ⟨#[]⟩, .string ⟨#[]⟩, .slice B 0 cB]] w fun e w' => e = .returned (.bool (decide (cmpB x y < 0))) ∧ Below w.heap.size w w' := by
  have HB := Aside0.mk (Below.refl w.heap.size w)
  generalize hc : cmpB x y = c
  go_enter Try.func12, Try.ntmps12
  go_wp2_with (go_at_call 30; refine (compare1 _ _ _ _ _ _ _).mono ?_; rintro e w' ⟨rfl, hb⟩; rw [hc]; have n1_ := Aside0.mk (below_step (by repeat (first | (with_reducible first | exact HB.out | apply below_alloc | apply pw_below_drewN | apply below_drew1) | exact HB.out)) hb); clear HB; have HB := n1_; clear n1_ hb)
  go_ret
  exact ⟨by first | rfl | simp, by repeat (first | (with_reducible first | exact HB.out | apply below_alloc | apply pw_below_drewN | apply below_drew1) | exact HB.out)⟩
set_option maxRecDepth 100000 in
theorem less2 (x y : Int) (A B : Option Addr) (cA cB : Nat) (w : World) :
    Calls Try.prog 12 #[.agg #[.int .i64 2, .bool false, .int .i64 x, .string ⟨#[]⟩, .string ⟨#[]⟩, .string ⟨#[]⟩, .slice A 0 cA], .agg #[.int .i64 2, .bool false, .int .i64 y, .string ⟨#[]⟩, .string ⟨#[]⟩, .string ⟨#[]⟩, .slice B 0 cB]] w fun e w' => e = .returned (.bool (decide (cmpI x y < 0))) ∧ Below w.heap.size w w' := by
  have HB := Aside0.mk (Below.refl w.heap.size w)
  generalize hc : cmpI x y = c
  go_enter Try.func12, Try.ntmps12
  go_wp2_with (go_at_call 30; refine (compare2 _ _ _ _ _ _ _).mono ?_; rintro e w' ⟨rfl, hb⟩; rw [hc]; have n1_ := Aside0.mk (below_step (by repeat (first | (with_reducible first | exact HB.out | apply below_alloc | apply pw_below_drewN | apply below_drew1) | exact HB.out)) hb); clear HB; have HB := n1_; clear n1_ hb)
  go_ret
  exact ⟨by first | rfl | simp, by repeat (first | (with_reducible first | exact HB.out | apply below_alloc | apply pw_below_drewN | apply below_drew1) | exact HB.out)⟩
set_option maxRecDepth 100000 in
theorem less3 (x y : ByteArray) (A B : Option Addr) (cA cB : Nat) (w : World) :
    Calls Try.prog 12 #[.agg #[.int .i64 3, .bool false, .int .i64 0, .string x, .string ⟨#[]⟩, .string ⟨#[]⟩, .slice A 0 cA], .agg #[.int .i64 3, .bool false, .int .i64 0, .string y, .string ⟨#[]⟩, .string ⟨#[]⟩, .slice B 0 cB]] w fun e w' => e = .returned (.bool (decide (cmpS x y < 0))) ∧ Below w.heap.size w w' := by
  have HB := Aside0.mk (Below.refl w.heap.size w)
  generalize hc : cmpS x y = c
  go_enter Try.func12, Try.ntmps12
  go_wp2_with (go_at_call 30; refine (compare3 _ _ _ _ _ _ _).mono ?_; rintro e w' ⟨rfl, hb⟩; rw [hc]; have n1_ := Aside0.mk (below_step (by repeat (first | (with_reducible first | exact HB.out | apply below_alloc | apply pw_below_drewN | apply below_drew1) | exact HB.out)) hb); clear HB; have HB := n1_; clear n1_ hb)
  go_ret
  exact ⟨by first | rfl | simp, by repeat (first | (with_reducible first | exact HB.out | apply below_alloc | apply pw_below_drewN | apply below_drew1) | exact HB.out)⟩
end Go.Proofs.Ytnjlggpidkbjcaa.GV
