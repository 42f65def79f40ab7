import Derived.Test.YtakkmhcidbamjaaProg
import Derived.Below
import Derived.Deep.Draws
import Derived.Deep.AppendLies
import Derived.Maps.AppendAt
import Derived.OwnWalk
import Derived.Laws.BytesArg
import Derived.Laws.MakeOwn
import Derived.Laws.OwnMore
import Derived.Deep.OwnRows
import Derived.Tactics
import Derived.Lib.ConvBytes
import Derived.Laws.Slices
import Derived.WalkKit
import Derived.KernelRfl
import Derived.RowKit3
import Derived.Deep.LoopGhost
import Derived.Deep.QuietTactic
import Derived.BigQuiet
import Derived.WideLaws
import Derived.Deep.DeepCutAuto
import Derived.Deep.CutBlock
import Derived.Deep.RegionHeld3
import Derived.Laws.Rows
import Derived.Lib.AppendStr
import Derived.ArgAppend
import Derived.Laws.IdiomCopy
import Derived.OrdersHeld
import Derived.Laws.BitsLemmas
import Derived.RowKit
import Derived.Test.YtakkmhcidbamjaaHandV
import Derived.Lib.OthersKept
import Derived.Lib.Hide
import Derived.Test.YtakkmhcidbamjaaWWords
import Derived.Test.YtakkmhcidbamjaaWLast
import Derived.Test.YtakkmhcidbamjaaWTab
import Derived.Test.YtakkmhcidbamjaaWFour
import Derived.Test.YtakkmhcidbamjaaWQPut
import Derived.Test.YtakkmhcidbamjaaWApart
import Derived.Test.YtakkmhcidbamjaaGV0
import Derived.Test.YtakkmhcidbamjaaEv16
import Derived.Test.YtakkmhcidbamjaaEv17
namespace Go.Proofs.Ytakkmhcidbamjaa.GV
open Go.RowKit Go.Proofs.YtakkmhcidbamjaaW.PrintWords Go.Proofs.YtakkmhcidbamjaaW.PrintLast Go.Proofs.Ytakkmhcidbamjaa.HandV Go.Proofs.YtakkmhcidbamjaaW.PrintMore
attribute [local go_sem] max2_int min2_int max_two min_two max_three min_three max_four min_four   -- for this text's walks alone
theorem within_n (a : Int) (k : Nat) (h0 : 0 < k) (h1 : k ≤ 1000) : ∃ m : Nat, m < k ∧ chancellaw13_within.f a (k : Int) = some (m : Int) := by
  have h3 : -(k : Int) < Int.tmod a k := Int.lt_tmod_of_pos a (by omega)
  have h2 : Int.tmod a k < k := Int.tmod_lt_of_pos a (by omega)
  unfold chancellaw13_within.f
  rw [if_neg (by omega)]
  by_cases h : Int.tmod a k < 0
  · rw [if_pos h]
    refine ⟨(Int.tmod a k + k).toNat, by omega, ?_⟩
    congr 1
    unfold wrap64
    omega
  · rw [if_neg h]
    exact ⟨(Int.tmod a k).toNat, by omega, by congr 1; omega⟩
/-- One of the three trees. -/
theorem trees (x : Nat) (hx : x < 3) (w : World) (gl g1 g2 g3 : Nat) (hl : w.heap[gl]? = some (.cells #[.int .i64 7, .bool false, .int .i64 0, .string ⟨#[97]⟩, .string ⟨#[]⟩, .string ⟨#[]⟩, .slice (some ⟨g1, 0, none⟩) 1 1, .int .i64 14, .bool false, .int .i64 0, .string ⟨#[]⟩, .string ⟨#[]⟩, .string ⟨#[]⟩, .slice (some ⟨g2, 0, none⟩) 2 2, .int .i64 11, .bool false, .int .i64 0, .string ⟨#[]⟩, .string ⟨#[]⟩, .string ⟨#[]⟩, .slice (some ⟨g3, 0, none⟩) 1 1] 28 (0, 0))) (h1 : w.heap[g1]? = some (.cells #[.int .i64 4, .bool false, .int .i64 0, .string ⟨#[]⟩, .string ⟨#[65]⟩, .string ⟨#[120]⟩, .slice none 0 0] 28 (0, 0))) (h2 : w.heap[g2]? = some (.cells #[.int .i64 2, .bool false, .int .i64 9223372036854775807, .string ⟨#[]⟩, .string ⟨#[]⟩, .string ⟨#[]⟩, .slice none 0 0, .int .i64 2, .bool false, .int .i64 1, .string ⟨#[]⟩, .string ⟨#[]⟩, .string ⟨#[]⟩, .slice none 0 0] 28 (0, 0))) (h3 : w.heap[g3]? = some (.cells #[.int .i64 2, .bool false, .int .i64 0, .string ⟨#[]⟩, .string ⟨#[]⟩, .string ⟨#[]⟩, .slice none 0 0] 28 (0, 0))) :
    ∃ (o : Int) (s : ByteArray) (p : Option Addr) (m q : Nat), (w.cell? ⟨gl, x * 7, none⟩ = some (Value.int .i64 o) ∧ w.cell? ⟨gl, x * 7 + 1, none⟩ = some (Value.bool false) ∧ w.cell? ⟨gl, x * 7 + 2, none⟩ = some (Value.int .i64 0) ∧ w.cell? ⟨gl, x * 7 + 3, none⟩ = some (Value.string s) ∧ w.cell? ⟨gl, x * 7 + 4, none⟩ = some (Value.string ⟨#[]⟩) ∧ w.cell? ⟨gl, x * 7 + 5, none⟩ = some (Value.string ⟨#[]⟩) ∧ w.cell? ⟨gl, x * 7 + 6, none⟩ = some (Value.slice p m q)) ∧ ∀ W, Below w.heap.size w W → Calls Try.prog 9 #[.agg wd0, .agg #[.int .i64 o, .bool false, .int .i64 0, .string s, .string ⟨#[]⟩, .string ⟨#[]⟩, .slice p m q]] W fun e w' => e = .returned (.tuple #[.agg #[.int .i64 0, .bool false, .int .i64 0, .string ⟨#[]⟩, .string ⟨#[]⟩, .string ⟨#[]⟩, .slice none 0 0], .int .i64 (18 - (x : Int))]) ∧ Below W.heap.size W w' := by
  have hxc : x = 0 ∨ x = 1 ∨ x = 2 := by omega
  rcases hxc with rfl | rfl | rfl
  · exact ⟨7, ⟨#[97]⟩, some ⟨g1, 0, none⟩, 1, 1, ⟨hcell hl 0 _ rfl, hcell hl 1 _ rfl, hcell hl 2 _ rfl, hcell hl 3 _ rfl, hcell hl 4 _ rfl, hcell hl 5 _ rfl, hcell hl 6 _ rfl⟩, fun W hW => gone_tree g1 1 (0, 0) W ((hW.block g1 (lt_of_heap h1)).trans h1)⟩
  · exact ⟨14, ⟨#[]⟩, some ⟨g2, 0, none⟩, 2, 2, ⟨hcell hl 7 _ rfl, hcell hl 8 _ rfl, hcell hl 9 _ rfl, hcell hl 10 _ rfl, hcell hl 11 _ rfl, hcell hl 12 _ rfl, hcell hl 13 _ rfl⟩, fun W hW => over_tree g2 2 (0, 0) W ((hW.block g2 (lt_of_heap h2)).trans h2)⟩
  · exact ⟨11, ⟨#[]⟩, some ⟨g3, 0, none⟩, 1, 1, ⟨hcell hl 14 _ rfl, hcell hl 15 _ rfl, hcell hl 16 _ rfl, hcell hl 17 _ rfl, hcell hl 18 _ rfl, hcell hl 19 _ rfl, hcell hl 20 _ rfl⟩, fun W hW => typed_tree g3 1 (0, 0) W ((hW.block g3 (lt_of_heap h3)).trans h3)⟩
theorem errs_at (x : Nat) (hx : x < 3) (w : World) (ge : Nat) (h : w.heap[ge]? = some (.cells #[.int .i64 18, .int .i64 17, .int .i64 16] 32 (0, 0))) : w.cell? ⟨ge, x, none⟩ = some (.int .i64 (18 - (x : Int))) := by
  have hxc : x = 0 ∨ x = 1 ∨ x = 2 := by omega
  rcases hxc with rfl | rfl | rfl
  · exact hcell h 0 _ rfl
  · exact hcell h 1 _ rfl
  · exact hcell h 2 _ rfl
end Go.Proofs.Ytakkmhcidbamjaa.GV
