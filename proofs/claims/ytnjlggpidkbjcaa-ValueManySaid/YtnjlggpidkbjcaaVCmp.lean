import Derived.Test.YtnjlggpidkbjcaaProg
import Derived.Below
import Derived.Deep.Draws
import Derived.Deep.AppendLies
import Derived.Maps.AppendAt
import Derived.OwnWalk
import Derived.Laws.BytesArg
import Derived.Laws.MakeOwn
import Derived.Laws.OwnMore
import Derived.Deep.OwnRows
import Derived.Tactics
import Derived.Lib.ConvBytes
import Derived.Laws.Slices
import Derived.WalkKit
import Derived.KernelRfl
import Derived.RowKit3
import Derived.Deep.LoopGhost
import Derived.Deep.QuietTactic
import Derived.BigQuiet
import Derived.WideLaws
import Derived.Deep.DeepCutAuto
import Derived.Deep.CutBlock
import Derived.Deep.RegionHeld3
import Derived.Laws.Rows
import Derived.Lib.AppendStr
import Derived.ArgAppend
import Derived.Laws.IdiomCopy
import Derived.OrdersHeld
import Derived.Laws.BitsLemmas
import Derived.RowKit
import Derived.Test.YtnjlggpidkbjcaaHandV
import Derived.Test.YtnjlggpidkbjcaaWWords
import Derived.Test.YtnjlggpidkbjcaaWLast
import Derived.Test.YtnjlggpidkbjcaaWTab
import Derived.Test.YtnjlggpidkbjcaaWFour
import Derived.Test.YtnjlggpidkbjcaaWQPut
import Derived.Test.YtnjlggpidkbjcaaWApart
import Derived.Test.YtnjlggpidkbjcaaWArr
import Derived.Test.YtnjlggpidkbjcaaWZeros
import Derived.Test.YtnjlggpidkbjcaaGV0
import Derived.Test.YtnjlggpidkbjcaaVOf
import Derived.Laws.Cover1
namespace Go.Proofs.Ytnjlggpidkbjcaa.GV
open Go.RowKit Go.Proofs.YtnjlggpidkbjcaaW.PrintWords Go.Proofs.YtnjlggpidkbjcaaW.PrintLast Go.Proofs.Ytnjlggpidkbjcaa.HandV Go.Proofs.YtnjlggpidkbjcaaW.PrintMore
attribute [local go_sem] max2_int min2_int max_two min_two max_three min_three max_four min_four   -- for this text's walks alone
/-- How two whole numbers stand. -/
def cmpI (a b : Int) : Int := if a < b then -1 else if a > b then 1 else 0
theorem nan_number (n : Int) (w : World) : Calls Try.prog 121 #[.int .i64 n] w fun e w' => e = .returned (.bool false) ∧ Drawn0 w w' := by
  go_enter Try.func121, Try.ntmps121
  go_wp2
  go_ret
  exact ⟨by first | rfl | simp, by repeat (first | exact Drawn0.refl _ | apply Drawn0.step)⟩
theorem cmp_number (n m : Int) (w : World) : Calls Try.prog 119 #[.int .i64 n, .int .i64 m] w fun e w' => e = .returned (.int .i64 (cmpI n m)) ∧ Drawn0 w w' := by
  unfold cmpI
  by_cases h1 : n < m
  · have h1_0 : decide (n < m) = true := decide_eq_true h1
    rw [if_pos h1]
    go_enter Try.func119, Try.ntmps119
    go_wp2_with (go_at_call 121; refine (nan_number _ _).mono ?_; rintro e w' ⟨rfl, ⟨nd, rfl⟩⟩)
    go_ret
    exact ⟨rfl, by repeat (first | exact Drawn0.refl _ | apply Drawn0.step)⟩
  · have h1_0 : decide (n < m) = false := decide_eq_false h1
    rw [if_neg h1]
    by_cases h2 : n > m
    · have h2_0 : decide (m < n) = true := decide_eq_true h2
      rw [if_pos h2]
      go_enter Try.func119, Try.ntmps119
      go_wp2_with (go_at_call 121; refine (nan_number _ _).mono ?_; rintro e w' ⟨rfl, ⟨nd, rfl⟩⟩)
      go_ret
      exact ⟨rfl, by repeat (first | exact Drawn0.refl _ | apply Drawn0.step)⟩
    · have h2_0 : decide (m < n) = false := decide_eq_false h2
      rw [if_neg h2]
      go_enter Try.func119, Try.ntmps119
      go_wp2_with (go_at_call 121; refine (nan_number _ _).mono ?_; rintro e w' ⟨rfl, ⟨nd, rfl⟩⟩)
      go_ret
      exact ⟨rfl, by repeat (first | exact Drawn0.refl _ | apply Drawn0.step)⟩
set_option maxRecDepth 100000 in
theorem compare_number (n m : Int) (w : World) : Calls Try.prog 117 #[.int .i64 n, .iface 79 (.int .i64 m)] w fun e w' => e = .returned (.int .i64 (cmpI n m)) ∧ Drawn0 w w' := by
  have hta : ∀ w, Sem.run Try.prog (Instr.typeAssert (Value.iface 79 (Value.int .i64 m)) 57 79 false) w = .ok (.int .i64 m) w := fun w => by first | rfl | (simp [Instr.typeAssert, go_sem]; done) | kernel_rfl
  go_enter Try.func117, Try.ntmps117
  go_wp2_with (go_at_call 119; refine (cmp_number _ _ _).mono ?_; rintro e w' ⟨rfl, ⟨nd, rfl⟩⟩)
  go_ret
  exact ⟨rfl, by repeat (first | exact Drawn0.refl _ | apply Drawn0.step)⟩
/-- How two texts stand, byte by byte. -/
def cmpS (s t : ByteArray) : Int := if Op.bytesLess s.toList t.toList = true then -1 else if s.toList = t.toList then 0 else 1
set_option maxRecDepth 100000 in
theorem nan_words (s : ByteArray) (w : World) : Calls Try.prog 126 #[.string s] w fun e w' => e = .returned (.bool false) ∧ Drawn0 w w' := by
  go_enter Try.func126, Try.ntmps126
  go_wp2
  go_ret
  exact ⟨by first | rfl | simp, by repeat (first | exact Drawn0.refl _ | apply Drawn0.step)⟩
set_option maxRecDepth 100000 in
theorem cmp_words (s t : ByteArray) (w : World) : Calls Try.prog 125 #[.string s, .string t] w fun e w' => e = .returned (.int .i64 (cmpS s t)) ∧ Drawn0 w w' := by
  unfold cmpS
  cases h1 : Op.bytesLess s.toList t.toList with
  | true =>
    rw [if_pos rfl]
    go_enter Try.func125, Try.ntmps125
    go_wp2_with (go_at_call 126; refine (nan_words _ _).mono ?_; rintro e w' ⟨rfl, ⟨nd, rfl⟩⟩)
    go_ret
    exact ⟨rfl, by repeat (first | exact Drawn0.refl _ | apply Drawn0.step)⟩
  | false =>
    rw [if_neg (by decide)]
    by_cases h2 : s.toList = t.toList
    · have h2_0 : (s.toList == t.toList) = true := beq_iff_eq.mpr h2
      rw [if_pos h2]
      clear h2
      go_enter Try.func125, Try.ntmps125
      go_wp2_with (go_at_call 126; refine (nan_words _ _).mono ?_; rintro e w' ⟨rfl, ⟨nd, rfl⟩⟩)
      go_ret
      exact ⟨rfl, by repeat (first | exact Drawn0.refl _ | apply Drawn0.step)⟩
    · have h2_0 : (s.toList == t.toList) = false := beq_eq_false_iff_ne.mpr h2
      rw [if_neg h2]
      clear h2
      go_enter Try.func125, Try.ntmps125
      go_wp2_with (go_at_call 126; refine (nan_words _ _).mono ?_; rintro e w' ⟨rfl, ⟨nd, rfl⟩⟩)
      go_ret
      exact ⟨rfl, by repeat (first | exact Drawn0.refl _ | apply Drawn0.step)⟩
set_option maxRecDepth 100000 in
theorem compare_words (n m : ByteArray) (w : World) : Calls Try.prog 123 #[.string n, .iface 80 (.string m)] w fun e w' => e = .returned (.int .i64 (cmpS n m)) ∧ Drawn0 w w' := by
  have hta : ∀ w, Sem.run Try.prog (Instr.typeAssert (Value.iface 80 (Value.string m)) 57 80 false) w = .ok (.string m) w := fun w => by first | rfl | (simp [Instr.typeAssert, go_sem]; done) | kernel_rfl
  go_enter Try.func123, Try.ntmps123
  go_wp2_with (go_at_call 125; refine (cmp_words _ _ _).mono ?_; rintro e w' ⟨rfl, ⟨nd, rfl⟩⟩)
  go_ret
  exact ⟨rfl, by repeat (first | exact Drawn0.refl _ | apply Drawn0.step)⟩
def cmpB (x y : Bool) : Int := if x = y then 0 else if y then -1 else 1
set_option maxRecDepth 100000 in
theorem compare_truth (x y : Bool) (w : World) : Calls Try.prog 114 #[.bool x, .iface 78 (.bool y)] w fun e w' => e = .returned (.int .i64 (cmpB x y)) ∧ Drawn0 w w' := by
  have hta : ∀ w, Sem.run Try.prog (Instr.typeAssert (Value.iface 78 (Value.bool y)) 57 78 false) w = .ok (.bool y) w := fun w => by first | rfl | (simp [Instr.typeAssert, go_sem]; done) | kernel_rfl
  cases x <;> cases y <;>
  · go_enter Try.func114, Try.ntmps114
    go_wp2
    go_ret
    exact ⟨rfl, by repeat (first | exact Drawn0.refl _ | apply Drawn0.step)⟩
set_option maxRecDepth 100000 in
set_option maxHeartbeats 4000000 in
theorem compare2 (x y : Int) (A B : Option Addr) (cA cB : Nat) (w : World) :
    Calls Try.prog 30 #[.agg #[.int .i64 2, .bool false, .int .i64 x, .string ⟨#[]⟩, .string ⟨#[]⟩, .string ⟨#[]⟩, .slice A 0 cA], .agg #[.int .i64 2, .bool false, .int .i64 y, .string ⟨#[]⟩, .string ⟨#[]⟩, .string ⟨#[]⟩, .slice B 0 cB]] w fun e w' => e = .returned (.int .i64 (cmpI x y)) ∧ Below w.heap.size w w' := by
  have HB := Aside0.mk (Below.refl w.heap.size w)
  go_enter Try.func30, Try.ntmps30
  have hm : ∀ (v : Value) (w : World), Sem.run Try.prog (method 248 79 v "chancel/value.compare") w = .ok (117, v) w := fun v w => by first | kernel_rfl | rfl
  go_wp2_with (first | (go_at_call 117; refine (compare_number _ _ _).mono ?_; rintro e w' ⟨rfl, ⟨nd, rfl⟩⟩) | (go_at_call 31; refine (value_of2 _ _ _ _ _ _ _ _ _).mono ?_; rintro e w' ⟨rfl, hb⟩; have d0_ := (hb.cell (p := ⟨w.heap.size + 1, 0, none⟩) (by first | assumption | (simp; done))).trans (show _ = some (Value.int .i64 2) by first | assumption | (simp; done) | (go_simp; done)); have d1_ := (hb.cell (p := ⟨w.heap.size + 1, 1, none⟩) (by first | assumption | (simp; done))).trans (show _ = some (Value.bool false) by first | assumption | (simp; done) | (go_simp; done)); have d2_ := (hb.cell (p := ⟨w.heap.size + 1, 2, none⟩) (by first | assumption | (simp; done))).trans (show _ = some (Value.int .i64 y) by first | assumption | (simp; done) | (go_simp; done)); have d3_ := (hb.cell (p := ⟨w.heap.size + 1, 3, none⟩) (by first | assumption | (simp; done))).trans (show _ = some (Value.string ⟨#[]⟩) by first | assumption | (simp; done) | (go_simp; done)); have d4_ := (hb.cell (p := ⟨w.heap.size + 1, 4, none⟩) (by first | assumption | (simp; done))).trans (show _ = some (Value.string ⟨#[]⟩) by first | assumption | (simp; done) | (go_simp; done)); have d5_ := (hb.cell (p := ⟨w.heap.size + 1, 5, none⟩) (by first | assumption | (simp; done))).trans (show _ = some (Value.string ⟨#[]⟩) by first | assumption | (simp; done) | (go_simp; done)); have d6_ := (hb.cell (p := ⟨w.heap.size + 1, 6, none⟩) (by first | assumption | (simp; done))).trans (show _ = some (Value.slice B 0 cB) by first | assumption | (simp; done) | (go_simp; done)); have hz_ := Nat.lt_of_lt_of_le (show w.heap.size + 1 < _ by first | assumption | (simp; done)) hb.size; have n1_ := Aside0.mk (below_step (by repeat (first | (with_reducible first | exact HB.out | apply below_alloc | apply pw_below_drewN | apply below_drew1) | exact HB.out)) hb); clear HB; have HB := n1_; clear n1_ hb))
  go_ret
  exact ⟨rfl, by repeat (first | (with_reducible first | exact HB.out | apply below_alloc | apply pw_below_drewN | apply below_drew1) | exact HB.out)⟩
set_option maxRecDepth 100000 in
set_option maxHeartbeats 4000000 in
theorem compare3 (x y : ByteArray) (A B : Option Addr) (cA cB : Nat) (w : World) :
    Calls Try.prog 30 #[.agg #[.int .i64 3, .bool false, .int .i64 0, .string x, .string ⟨#[]⟩, .string ⟨#[]⟩, .slice A 0 cA], .agg #[.int .i64 3, .bool false, .int .i64 0, .string y, .string ⟨#[]⟩, .string ⟨#[]⟩, .slice B 0 cB]] w fun e w' => e = .returned (.int .i64 (cmpS x y)) ∧ Below w.heap.size w w' := by
  have HB := Aside0.mk (Below.refl w.heap.size w)
  go_enter Try.func30, Try.ntmps30
  have hm : ∀ (v : Value) (w : World), Sem.run Try.prog (method 248 80 v "chancel/value.compare") w = .ok (123, v) w := fun v w => by first | kernel_rfl | rfl
  go_wp2_with (first | (go_at_call 123; refine (compare_words _ _ _).mono ?_; rintro e w' ⟨rfl, ⟨nd, rfl⟩⟩) | (go_at_call 31; refine (value_of3 _ _ _ _ _ _ _ _ _).mono ?_; rintro e w' ⟨rfl, hb⟩; have d0_ := (hb.cell (p := ⟨w.heap.size + 1, 0, none⟩) (by first | assumption | (simp; done))).trans (show _ = some (Value.int .i64 3) by first | assumption | (simp; done) | (go_simp; done)); have d1_ := (hb.cell (p := ⟨w.heap.size + 1, 1, none⟩) (by first | assumption | (simp; done))).trans (show _ = some (Value.bool false) by first | assumption | (simp; done) | (go_simp; done)); have d2_ := (hb.cell (p := ⟨w.heap.size + 1, 2, none⟩) (by first | assumption | (simp; done))).trans (show _ = some (Value.int .i64 0) by first | assumption | (simp; done) | (go_simp; done)); have d3_ := (hb.cell (p := ⟨w.heap.size + 1, 3, none⟩) (by first | assumption | (simp; done))).trans (show _ = some (Value.string y) by first | assumption | (simp; done) | (go_simp; done)); have d4_ := (hb.cell (p := ⟨w.heap.size + 1, 4, none⟩) (by first | assumption | (simp; done))).trans (show _ = some (Value.string ⟨#[]⟩) by first | assumption | (simp; done) | (go_simp; done)); have d5_ := (hb.cell (p := ⟨w.heap.size + 1, 5, none⟩) (by first | assumption | (simp; done))).trans (show _ = some (Value.string ⟨#[]⟩) by first | assumption | (simp; done) | (go_simp; done)); have d6_ := (hb.cell (p := ⟨w.heap.size + 1, 6, none⟩) (by first | assumption | (simp; done))).trans (show _ = some (Value.slice B 0 cB) by first | assumption | (simp; done) | (go_simp; done)); have hz_ := Nat.lt_of_lt_of_le (show w.heap.size + 1 < _ by first | assumption | (simp; done)) hb.size; have n1_ := Aside0.mk (below_step (by repeat (first | (with_reducible first | exact HB.out | apply below_alloc | apply pw_below_drewN | apply below_drew1) | exact HB.out)) hb); clear HB; have HB := n1_; clear n1_ hb))
  go_ret
  exact ⟨rfl, by repeat (first | (with_reducible first | exact HB.out | apply below_alloc | apply pw_below_drewN | apply below_drew1) | exact HB.out)⟩
set_option maxRecDepth 100000 in
set_option maxHeartbeats 4000000 in
theorem compare1 (x y : Bool) (A B : Option Addr) (cA cB : Nat) (w : World) :
    Calls Try.prog 30 #[.agg #[.int .i64 1, .bool x, .int .i64 0, .string ⟨#[]⟩, .string ⟨#[]⟩, .string ⟨#[]⟩, .slice A 0 cA], .agg #[.int .i64 1, .bool y, .int .i64 0, .string ⟨#[]⟩, .string ⟨#[]⟩, .string ⟨#[]⟩, .slice B 0 cB]] w fun e w' => e = .returned (.int .i64 (cmpB x y)) ∧ Below w.heap.size w w' := by
  have HB := Aside0.mk (Below.refl w.heap.size w)
  go_enter Try.func30, Try.ntmps30
  have hm : ∀ (v : Value) (w : World), Sem.run Try.prog (method 248 78 v "chancel/value.compare") w = .ok (114, v) w := fun v w => by first | kernel_rfl | rfl
  go_wp2_with (first | (go_at_call 114; refine (compare_truth _ _ _).mono ?_; rintro e w' ⟨rfl, ⟨nd, rfl⟩⟩) | (go_at_call 31; refine (value_of1 _ _ _ _ _ _ _ _ _).mono ?_; rintro e w' ⟨rfl, hb⟩; have d0_ := (hb.cell (p := ⟨w.heap.size + 1, 0, none⟩) (by first | assumption | (simp; done))).trans (show _ = some (Value.int .i64 1) by first | assumption | (simp; done) | (go_simp; done)); have d1_ := (hb.cell (p := ⟨w.heap.size + 1, 1, none⟩) (by first | assumption | (simp; done))).trans (show _ = some (Value.bool y) by first | assumption | (simp; done) | (go_simp; done)); have d2_ := (hb.cell (p := ⟨w.heap.size + 1, 2, none⟩) (by first | assumption | (simp; done))).trans (show _ = some (Value.int .i64 0) by first | assumption | (simp; done) | (go_simp; done)); have d3_ := (hb.cell (p := ⟨w.heap.size + 1, 3, none⟩) (by first | assumption | (simp; done))).trans (show _ = some (Value.string ⟨#[]⟩) by first | assumption | (simp; done) | (go_simp; done)); have d4_ := (hb.cell (p := ⟨w.heap.size + 1, 4, none⟩) (by first | assumption | (simp; done))).trans (show _ = some (Value.string ⟨#[]⟩) by first | assumption | (simp; done) | (go_simp; done)); have d5_ := (hb.cell (p := ⟨w.heap.size + 1, 5, none⟩) (by first | assumption | (simp; done))).trans (show _ = some (Value.string ⟨#[]⟩) by first | assumption | (simp; done) | (go_simp; done)); have d6_ := (hb.cell (p := ⟨w.heap.size + 1, 6, none⟩) (by first | assumption | (simp; done))).trans (show _ = some (Value.slice B 0 cB) by first | assumption | (simp; done) | (go_simp; done)); have hz_ := Nat.lt_of_lt_of_le (show w.heap.size + 1 < _ by first | assumption | (simp; done)) hb.size; have n1_ := Aside0.mk (below_step (by repeat (first | (with_reducible first | exact HB.out | apply below_alloc | apply pw_below_drewN | apply below_drew1) | exact HB.out)) hb); clear HB; have HB := n1_; clear n1_ hb))
  go_ret
  exact ⟨rfl, by repeat (first | (with_reducible first | exact HB.out | apply below_alloc | apply pw_below_drewN | apply below_drew1) | exact HB.out)⟩
end Go.Proofs.Ytnjlggpidkbjcaa.GV
