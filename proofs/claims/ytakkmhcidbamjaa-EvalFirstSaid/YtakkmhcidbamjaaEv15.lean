import Derived.Test.YtakkmhcidbamjaaProg
import Derived.Below
import Derived.Deep.Draws
import Derived.Deep.AppendLies
import Derived.Maps.AppendAt
import Derived.OwnWalk
import Derived.Laws.BytesArg
import Derived.Laws.MakeOwn
import Derived.Laws.OwnMore
import Derived.Deep.OwnRows
import Derived.Tactics
import Derived.Lib.ConvBytes
import Derived.Laws.Slices
import Derived.WalkKit
import Derived.KernelRfl
import Derived.RowKit3
import Derived.Deep.LoopGhost
import Derived.Deep.QuietTactic
import Derived.BigQuiet
import Derived.WideLaws
import Derived.Deep.DeepCutAuto
import Derived.Deep.CutBlock
import Derived.Deep.RegionHeld3
import Derived.Laws.Rows
import Derived.Lib.AppendStr
import Derived.ArgAppend
import Derived.Laws.IdiomCopy
import Derived.OrdersHeld
import Derived.Laws.BitsLemmas
import Derived.RowKit
import Derived.Test.YtakkmhcidbamjaaHandV
import Derived.Lib.OthersKept
import Derived.Lib.Hide
import Derived.Test.YtakkmhcidbamjaaWWords
import Derived.Test.YtakkmhcidbamjaaWLast
import Derived.Test.YtakkmhcidbamjaaWTab
import Derived.Test.YtakkmhcidbamjaaWFour
import Derived.Test.YtakkmhcidbamjaaWQPut
import Derived.Test.YtakkmhcidbamjaaWApart
import Derived.Test.YtakkmhcidbamjaaGV0
import Derived.Test.YtakkmhcidbamjaaEv12
import Derived.Test.YtakkmhcidbamjaaEv13
import Derived.Test.YtakkmhcidbamjaaEv14
namespace Go.Proofs.Ytakkmhcidbamjaa.GV
open Go.RowKit Go.Proofs.YtakkmhcidbamjaaW.PrintWords Go.Proofs.YtakkmhcidbamjaaW.PrintLast Go.Proofs.Ytakkmhcidbamjaa.HandV Go.Proofs.YtakkmhcidbamjaaW.PrintMore
attribute [local go_sem] max2_int min2_int max_two min_two max_three min_three max_four min_four   -- for this text's walks alone
/-- And of what is false and whatever stands behind it. -/
theorem and_false_heap (gk kc : Nat) (r0 r1 r2 r3 r4 r5 r6 : Value) (fr : Nat × Nat) (w : World) (hh : w.heap[gk]? = some (.cells #[.int .i64 1, .bool false, .int .i64 0, .string ⟨#[]⟩, .string ⟨#[]⟩, .string ⟨#[]⟩, .slice none 0 0, r0, r1, r2, r3, r4, r5, r6] 28 fr)) :
    Calls Try.prog 9 #[.agg wd0, .agg #[.int .i64 23, .bool false, .int .i64 0, .string ⟨#[]⟩, .string ⟨#[]⟩, .string ⟨#[]⟩, .slice (some ⟨gk, 0, none⟩) 2 kc]] w fun e w' => e = .returned (.tuple #[.agg #[.int .i64 1, .bool false, .int .i64 0, .string ⟨#[]⟩, .string ⟨#[]⟩, .string ⟨#[]⟩, .slice none 0 0], .int .i64 0]) ∧ Below w.heap.size w w' :=
  expr_choice_false false 0 _ _ _ (some ⟨gk, 0, none⟩) 2 kc (by omega) w (fun W hW =>
    have hh2 := (hW.block gk (lt_of_heap hh)).trans hh
    choice_and_false false 0 _ _ _ gk 2 kc (by omega) _ _ _ _ _ _ _ W (hcell hh2 0 _ rfl) (hcell hh2 1 _ rfl) (hcell hh2 2 _ rfl) (hcell hh2 3 _ rfl) (hcell hh2 4 _ rfl) (hcell hh2 5 _ rfl) (hcell hh2 6 _ rfl)
      (fun W2 _ => asked_ok false 1 false 0 _ _ _ none 0 0 W2 (fun W3 _ => expr_leaf1 false 0 _ _ _ none 0 0 W3)))
/-- The sum of a number and a truth. -/
theorem bad_heap (gk kc : Nat) (fr : Nat × Nat) (w : World) (hh : w.heap[gk]? = some (.cells #[.int .i64 2, .bool false, .int .i64 1, .string ⟨#[]⟩, .string ⟨#[]⟩, .string ⟨#[]⟩, .slice none 0 0, .int .i64 1, .bool true, .int .i64 0, .string ⟨#[]⟩, .string ⟨#[]⟩, .string ⟨#[]⟩, .slice none 0 0] 28 fr)) :
    Calls Try.prog 9 #[.agg wd0, .agg #[.int .i64 14, .bool false, .int .i64 0, .string ⟨#[]⟩, .string ⟨#[]⟩, .string ⟨#[]⟩, .slice (some ⟨gk, 0, none⟩) 2 kc]] w fun e w' => e = .returned (.tuple #[.agg #[.int .i64 0, .bool false, .int .i64 0, .string ⟨#[]⟩, .string ⟨#[]⟩, .string ⟨#[]⟩, .slice none 0 0], .int .i64 16]) ∧ Below w.heap.size w w' :=
  expr_add_type 1 true false 0 _ _ _ gk kc _ _ _ _ _ _ _ _ _ _ _ _ _ _ w
    (hcell hh 0 _ rfl) (hcell hh 7 _ rfl) (hcell hh 1 _ rfl) (hcell hh 8 _ rfl) (hcell hh 2 _ rfl) (hcell hh 9 _ rfl) (hcell hh 3 _ rfl) (hcell hh 10 _ rfl) (hcell hh 4 _ rfl) (hcell hh 11 _ rfl) (hcell hh 5 _ rfl) (hcell hh 12 _ rfl) (hcell hh 6 _ rfl) (hcell hh 13 _ rfl)
    (fun W _ => expr_leaf2 false 1 _ _ _ none 0 0 W) (fun W _ => expr_leaf1 true 0 _ _ _ none 0 0 W)
end Go.Proofs.Ytakkmhcidbamjaa.GV
