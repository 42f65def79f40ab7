import Derived.Test.YtakkmhcidbamjaaProg
import Derived.Below
import Derived.Deep.Draws
import Derived.Deep.AppendLies
import Derived.Maps.AppendAt
import Derived.OwnWalk
import Derived.Laws.BytesArg
import Derived.Laws.MakeOwn
import Derived.Laws.OwnMore
import Derived.Deep.OwnRows
import Derived.Tactics
import Derived.Lib.ConvBytes
import Derived.Laws.Slices
import Derived.WalkKit
import Derived.KernelRfl
import Derived.RowKit3
import Derived.Deep.LoopGhost
import Derived.Deep.QuietTactic
import Derived.BigQuiet
import Derived.WideLaws
import Derived.Deep.DeepCutAuto
import Derived.Deep.CutBlock
import Derived.Deep.RegionHeld3
import Derived.Laws.Rows
import Derived.Lib.AppendStr
import Derived.ArgAppend
import Derived.Laws.IdiomCopy
import Derived.OrdersHeld
import Derived.Laws.BitsLemmas
import Derived.RowKit
import Derived.Test.YtakkmhcidbamjaaHandV
import Derived.Lib.OthersKept
import Derived.Lib.Hide
import Derived.Test.YtakkmhcidbamjaaWWords
import Derived.Test.YtakkmhcidbamjaaWLast
import Derived.Test.YtakkmhcidbamjaaWTab
import Derived.Test.YtakkmhcidbamjaaWFour
import Derived.Test.YtakkmhcidbamjaaWQPut
import Derived.Test.YtakkmhcidbamjaaWApart
import Derived.Test.YtakkmhcidbamjaaGV0
import Derived.Test.YtakkmhcidbamjaaEv15
namespace Go.Proofs.Ytakkmhcidbamjaa.GV
open Go.RowKit Go.Proofs.YtakkmhcidbamjaaW.PrintWords Go.Proofs.YtakkmhcidbamjaaW.PrintLast Go.Proofs.Ytakkmhcidbamjaa.HandV Go.Proofs.YtakkmhcidbamjaaW.PrintMore
attribute [local go_sem] max2_int min2_int max_two min_two max_three min_three max_four min_four   -- for this text's walks alone
/-- The first of two kids errs. -/
theorem first_errs (op : Int) (h1 : 13 ≤ op) (h2 : op ≤ 24) (er : Int) (her : er ≠ 0) (o0 : Int) (s0 : ByteArray) (p0 : Option Addr) (m0 q0 : Nat) (l0 l1 l2 l3 l4 l5 l6 : Value) (gk kc : Nat) (fr : Nat × Nat) (w : World) (hh : w.heap[gk]? = some (.cells #[.int .i64 o0, .bool false, .int .i64 0, .string s0, .string ⟨#[]⟩, .string ⟨#[]⟩, .slice p0 m0 q0, l0, l1, l2, l3, l4, l5, l6] 28 fr)) (hT : ∀ W, Below w.heap.size w W → Calls Try.prog 9 #[.agg wd0, .agg #[.int .i64 o0, .bool false, .int .i64 0, .string s0, .string ⟨#[]⟩, .string ⟨#[]⟩, .slice p0 m0 q0]] W fun e w' => e = .returned (.tuple #[.agg #[.int .i64 0, .bool false, .int .i64 0, .string ⟨#[]⟩, .string ⟨#[]⟩, .string ⟨#[]⟩, .slice none 0 0], .int .i64 er]) ∧ Below W.heap.size W w') : Calls Try.prog 9 #[.agg wd0, .agg #[.int .i64 op, .bool false, .int .i64 0, .string ⟨#[]⟩, .string ⟨#[]⟩, .string ⟨#[]⟩, .slice (some ⟨gk, 0, none⟩) 2 kc]] w fun e w' => e = .returned (.tuple #[.agg #[.int .i64 0, .bool false, .int .i64 0, .string ⟨#[]⟩, .string ⟨#[]⟩, .string ⟨#[]⟩, .slice none 0 0], .int .i64 er]) ∧ Below w.heap.size w w' := by
  by_cases h : op < 23
  · exact expr_bin_err op (by omega) h er her false 0 _ _ _ gk 2 kc (by omega) _ _ _ _ _ _ _ w (hcell hh 0 _ rfl) (hcell hh 1 _ rfl) (hcell hh 2 _ rfl) (hcell hh 3 _ rfl) (hcell hh 4 _ rfl) (hcell hh 5 _ rfl) (hcell hh 6 _ rfl) hT
  · refine expr_choice_err op er (by omega) (by omega) false 0 _ _ _ (some ⟨gk, 0, none⟩) 2 kc (by omega) w (fun W hW => ?_)
    have hh2 := (hW.block gk (lt_of_heap hh)).trans hh
    exact choice_err op er her false 0 _ _ _ gk 2 kc (by omega) _ _ _ _ _ _ _ W (hcell hh2 0 _ rfl) (hcell hh2 1 _ rfl) (hcell hh2 2 _ rfl) (hcell hh2 3 _ rfl) (hcell hh2 4 _ rfl) (hcell hh2 5 _ rfl) (hcell hh2 6 _ rfl) (fun W2 hW2 => asked_err er her o0 false 0 s0 _ _ p0 m0 q0 W2 (fun W3 hW3 => hT W3 (below_step (below_step hW hW2) hW3)))
/-- The first of three kids errs. -/
theorem if_errs (er : Int) (her : er ≠ 0) (o0 : Int) (s0 : ByteArray) (p0 : Option Addr) (m0 q0 : Nat) (l0 l1 l2 l3 l4 l5 l6 m0' m1' m2' m3' m4' m5' m6' : Value) (gk kc : Nat) (fr : Nat × Nat) (w : World) (hh : w.heap[gk]? = some (.cells #[.int .i64 o0, .bool false, .int .i64 0, .string s0, .string ⟨#[]⟩, .string ⟨#[]⟩, .slice p0 m0 q0, l0, l1, l2, l3, l4, l5, l6, m0', m1', m2', m3', m4', m5', m6'] 28 fr)) (hT : ∀ W, Below w.heap.size w W → Calls Try.prog 9 #[.agg wd0, .agg #[.int .i64 o0, .bool false, .int .i64 0, .string s0, .string ⟨#[]⟩, .string ⟨#[]⟩, .slice p0 m0 q0]] W fun e w' => e = .returned (.tuple #[.agg #[.int .i64 0, .bool false, .int .i64 0, .string ⟨#[]⟩, .string ⟨#[]⟩, .string ⟨#[]⟩, .slice none 0 0], .int .i64 er]) ∧ Below W.heap.size W w') : Calls Try.prog 9 #[.agg wd0, .agg #[.int .i64 25, .bool false, .int .i64 0, .string ⟨#[]⟩, .string ⟨#[]⟩, .string ⟨#[]⟩, .slice (some ⟨gk, 0, none⟩) 3 kc]] w fun e w' => e = .returned (.tuple #[.agg #[.int .i64 0, .bool false, .int .i64 0, .string ⟨#[]⟩, .string ⟨#[]⟩, .string ⟨#[]⟩, .slice none 0 0], .int .i64 er]) ∧ Below w.heap.size w w' := by
  refine expr_if_err er false 0 _ _ _ (some ⟨gk, 0, none⟩) 3 kc (by omega) w (fun W hW => ?_)
  have hh2 := (hW.block gk (lt_of_heap hh)).trans hh
  exact choice_err 25 er her false 0 _ _ _ gk 3 kc (by omega) _ _ _ _ _ _ _ W (hcell hh2 0 _ rfl) (hcell hh2 1 _ rfl) (hcell hh2 2 _ rfl) (hcell hh2 3 _ rfl) (hcell hh2 4 _ rfl) (hcell hh2 5 _ rfl) (hcell hh2 6 _ rfl) (fun W2 hW2 => asked_err er her o0 false 0 s0 _ _ p0 m0 q0 W2 (fun W3 hW3 => hT W3 (below_step (below_step hW hW2) hW3)))
/-- Behind what is true the second kid errs. -/
theorem and_errs (er : Int) (her : er ≠ 0) (o0 : Int) (s0 : ByteArray) (p0 : Option Addr) (m0 q0 : Nat) (gk kc : Nat) (fr : Nat × Nat) (w : World) (hh : w.heap[gk]? = some (.cells #[.int .i64 1, .bool true, .int .i64 0, .string ⟨#[]⟩, .string ⟨#[]⟩, .string ⟨#[]⟩, .slice none 0 0, .int .i64 o0, .bool false, .int .i64 0, .string s0, .string ⟨#[]⟩, .string ⟨#[]⟩, .slice p0 m0 q0] 28 fr)) (hT : ∀ W, Below w.heap.size w W → Calls Try.prog 9 #[.agg wd0, .agg #[.int .i64 o0, .bool false, .int .i64 0, .string s0, .string ⟨#[]⟩, .string ⟨#[]⟩, .slice p0 m0 q0]] W fun e w' => e = .returned (.tuple #[.agg #[.int .i64 0, .bool false, .int .i64 0, .string ⟨#[]⟩, .string ⟨#[]⟩, .string ⟨#[]⟩, .slice none 0 0], .int .i64 er]) ∧ Below W.heap.size W w') : Calls Try.prog 9 #[.agg wd0, .agg #[.int .i64 23, .bool false, .int .i64 0, .string ⟨#[]⟩, .string ⟨#[]⟩, .string ⟨#[]⟩, .slice (some ⟨gk, 0, none⟩) 2 kc]] w fun e w' => e = .returned (.tuple #[.agg #[.int .i64 0, .bool false, .int .i64 0, .string ⟨#[]⟩, .string ⟨#[]⟩, .string ⟨#[]⟩, .slice none 0 0], .int .i64 er]) ∧ Below w.heap.size w w' := by
  refine expr_choice_err 23 er (by omega) (by omega) false 0 _ _ _ (some ⟨gk, 0, none⟩) 2 kc (by omega) w (fun W hW => ?_)
  have hh2 := (hW.block gk (lt_of_heap hh)).trans hh
  exact choice_and_err er her false 0 _ _ _ gk 2 kc (by omega) _ _ _ _ _ _ _ _ _ _ _ _ _ _ W (hcell hh2 0 _ rfl) (hcell hh2 1 _ rfl) (hcell hh2 2 _ rfl) (hcell hh2 3 _ rfl) (hcell hh2 4 _ rfl) (hcell hh2 5 _ rfl) (hcell hh2 6 _ rfl) (hcell hh2 7 _ rfl) (hcell hh2 8 _ rfl) (hcell hh2 9 _ rfl) (hcell hh2 10 _ rfl) (hcell hh2 11 _ rfl) (hcell hh2 12 _ rfl) (hcell hh2 13 _ rfl)
    (fun W2 _ => asked_ok true 1 true 0 _ _ _ none 0 0 W2 (fun W3 _ => expr_leaf1 true 0 _ _ _ none 0 0 W3))
    (fun W2 hW2 => asked_err er her o0 false 0 s0 _ _ p0 m0 q0 W2 (fun W3 hW3 => hT W3 (below_step (below_step hW hW2) hW3)))
theorem gone_tree (gk kc : Nat) (fr : Nat × Nat) (w : World) (hh : w.heap[gk]? = some (.cells #[.int .i64 4, .bool false, .int .i64 0, .string ⟨#[]⟩, .string ⟨#[65]⟩, .string ⟨#[120]⟩, .slice none 0 0] 28 fr)) :
    Calls Try.prog 9 #[.agg wd0, .agg #[.int .i64 7, .bool false, .int .i64 0, .string ⟨#[97]⟩, .string ⟨#[]⟩, .string ⟨#[]⟩, .slice (some ⟨gk, 0, none⟩) 1 kc]] w fun e w' => e = .returned (.tuple #[.agg #[.int .i64 0, .bool false, .int .i64 0, .string ⟨#[]⟩, .string ⟨#[]⟩, .string ⟨#[]⟩, .slice none 0 0], .int .i64 18]) ∧ Below w.heap.size w w' :=
  expr_gone ⟨#[65]⟩ ⟨#[120]⟩ false 0 _ _ _ gk kc _ _ _ _ _ _ _ w (hcell hh 0 _ rfl) (hcell hh 1 _ rfl) (hcell hh 2 _ rfl) (hcell hh 3 _ rfl) (hcell hh 4 _ rfl) (hcell hh 5 _ rfl) (hcell hh 6 _ rfl) (fun W _ => expr_leaf4 false 0 _ ⟨#[65]⟩ ⟨#[120]⟩ none 0 0 W)
theorem over_tree (gk kc : Nat) (fr : Nat × Nat) (w : World) (hh : w.heap[gk]? = some (.cells #[.int .i64 2, .bool false, .int .i64 9223372036854775807, .string ⟨#[]⟩, .string ⟨#[]⟩, .string ⟨#[]⟩, .slice none 0 0, .int .i64 2, .bool false, .int .i64 1, .string ⟨#[]⟩, .string ⟨#[]⟩, .string ⟨#[]⟩, .slice none 0 0] 28 fr)) :
    Calls Try.prog 9 #[.agg wd0, .agg #[.int .i64 14, .bool false, .int .i64 0, .string ⟨#[]⟩, .string ⟨#[]⟩, .string ⟨#[]⟩, .slice (some ⟨gk, 0, none⟩) 2 kc]] w fun e w' => e = .returned (.tuple #[.agg #[.int .i64 0, .bool false, .int .i64 0, .string ⟨#[]⟩, .string ⟨#[]⟩, .string ⟨#[]⟩, .slice none 0 0], .int .i64 17]) ∧ Below w.heap.size w w' :=
  expr_add_err 9223372036854775807 1 0 17 (by decide) (by decide +kernel) false 0 _ _ _ gk kc _ _ _ _ _ _ _ _ _ _ _ _ _ _ w (hcell hh 0 _ rfl) (hcell hh 7 _ rfl) (hcell hh 1 _ rfl) (hcell hh 8 _ rfl) (hcell hh 2 _ rfl) (hcell hh 9 _ rfl) (hcell hh 3 _ rfl) (hcell hh 10 _ rfl) (hcell hh 4 _ rfl) (hcell hh 11 _ rfl) (hcell hh 5 _ rfl) (hcell hh 12 _ rfl) (hcell hh 6 _ rfl) (hcell hh 13 _ rfl) (fun W _ => expr_leaf2 false 9223372036854775807 _ _ _ none 0 0 W) (fun W _ => expr_leaf2 false 1 _ _ _ none 0 0 W)
theorem typed_tree (gk kc : Nat) (fr : Nat × Nat) (w : World) (hh : w.heap[gk]? = some (.cells #[.int .i64 2, .bool false, .int .i64 0, .string ⟨#[]⟩, .string ⟨#[]⟩, .string ⟨#[]⟩, .slice none 0 0] 28 fr)) :
    Calls Try.prog 9 #[.agg wd0, .agg #[.int .i64 11, .bool false, .int .i64 0, .string ⟨#[]⟩, .string ⟨#[]⟩, .string ⟨#[]⟩, .slice (some ⟨gk, 0, none⟩) 1 kc]] w fun e w' => e = .returned (.tuple #[.agg #[.int .i64 0, .bool false, .int .i64 0, .string ⟨#[]⟩, .string ⟨#[]⟩, .string ⟨#[]⟩, .slice none 0 0], .int .i64 16]) ∧ Below w.heap.size w w' :=
  expr_not 0 false 0 _ _ _ gk kc _ _ _ _ _ _ _ w (hcell hh 0 _ rfl) (hcell hh 1 _ rfl) (hcell hh 2 _ rfl) (hcell hh 3 _ rfl) (hcell hh 4 _ rfl) (hcell hh 5 _ rfl) (hcell hh 6 _ rfl) (fun W _ => expr_leaf2 false 0 _ _ _ none 0 0 W)
end Go.Proofs.Ytakkmhcidbamjaa.GV
