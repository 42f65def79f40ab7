import Derived.Test.YtnjlggpidkbjcaaProg
import Derived.Below
import Derived.Deep.Draws
import Derived.Deep.AppendLies
import Derived.Maps.AppendAt
import Derived.OwnWalk
import Derived.Laws.BytesArg
import Derived.Laws.MakeOwn
import Derived.Laws.OwnMore
import Derived.Deep.OwnRows
import Derived.Tactics
import Derived.Lib.ConvBytes
import Derived.Laws.Slices
import Derived.WalkKit
import Derived.KernelRfl
import Derived.RowKit3
import Derived.Deep.LoopGhost
import Derived.Deep.QuietTactic
import Derived.BigQuiet
import Derived.WideLaws
import Derived.Deep.DeepCutAuto
import Derived.Deep.CutBlock
import Derived.Deep.RegionHeld3
import Derived.Laws.Rows
import Derived.Lib.AppendStr
import Derived.ArgAppend
import Derived.Laws.IdiomCopy
import Derived.OrdersHeld
import Derived.Laws.BitsLemmas
import Derived.RowKit
import Derived.Test.YtnjlggpidkbjcaaHandV
import Derived.Test.YtnjlggpidkbjcaaWWords
import Derived.Test.YtnjlggpidkbjcaaWLast
import Derived.Test.YtnjlggpidkbjcaaWTab
import Derived.Test.YtnjlggpidkbjcaaWFour
import Derived.Test.YtnjlggpidkbjcaaWQPut
import Derived.Test.YtnjlggpidkbjcaaWApart
import Derived.Test.YtnjlggpidkbjcaaWArr
import Derived.Test.YtnjlggpidkbjcaaWZeros
import Derived.Test.YtnjlggpidkbjcaaGV0
import Derived.Test.YtnjlggpidkbjcaaVSame
import Derived.Deep.RegionHeld3
namespace Go.Proofs.Ytnjlggpidkbjcaa.GV
open Go.RowKit Go.Proofs.YtnjlggpidkbjcaaW.PrintWords Go.Proofs.YtnjlggpidkbjcaaW.PrintLast Go.Proofs.Ytnjlggpidkbjcaa.HandV Go.Proofs.YtnjlggpidkbjcaaW.PrintMore
attribute [local go_sem] max2_int min2_int max_two min_two max_three min_three max_four min_four   -- for this text's walks alone
/-- A plain value: a truth, a number, words. -/
inductive PV
  | tr (x : Bool)
  | nu (x : Int)
  | wo (x : ByteArray)
/-- Its cells. -/
def PV.cell (j : Nat) : PV → Value
  | .tr x => [Value.int .i64 1, .bool x, .int .i64 0, .string ⟨#[]⟩, .string ⟨#[]⟩, .string ⟨#[]⟩, .slice none 0 0].getD j .nilIface
  | .nu x => [Value.int .i64 2, .bool false, .int .i64 x, .string ⟨#[]⟩, .string ⟨#[]⟩, .string ⟨#[]⟩, .slice none 0 0].getD j .nilIface
  | .wo x => [Value.int .i64 3, .bool false, .int .i64 0, .string x, .string ⟨#[]⟩, .string ⟨#[]⟩, .slice none 0 0].getD j .nilIface
def PV.arr (v : PV) : Array Value := #[v.cell 0, v.cell 1, v.cell 2, v.cell 3, v.cell 4, v.cell 5, v.cell 6]
def PV.kind : PV → Int
  | .tr _ => 1
  | .nu _ => 2
  | .wo _ => 3
/-- How two of one kind stand. -/
def PV.cmp : PV → PV → Int
  | .tr x, .tr y => cmpB x y
  | .nu x, .nu y => cmpI x y
  | .wo x, .wo y => cmpS x y
  | _, _ => 0
theorem compare_pv (x y : PV) (h : x.kind = y.kind) (w : World) : Calls Try.prog 30 #[.agg x.arr, .agg y.arr] w fun e w' => e = .returned (.int .i64 (x.cmp y)) ∧ Below w.heap.size w w' := by
  cases x <;> cases y <;> first | exact compare1 _ _ _ _ _ _ w | exact compare2 _ _ _ _ _ _ w | exact compare3 _ _ _ _ _ _ w | exact absurd h (by simp [PV.kind])
theorem less_pv (x y : PV) (h : x.kind = y.kind) (w : World) : Calls Try.prog 12 #[.agg x.arr, .agg y.arr] w fun e w' => e = .returned (.bool (decide (x.cmp y < 0))) ∧ Below w.heap.size w w' := by
  cases x <;> cases y <;> first | exact less1 _ _ _ _ _ _ w | exact less2 _ _ _ _ _ _ w | exact less3 _ _ _ _ _ _ w | exact absurd h (by simp [PV.kind])
theorem same_pv (x y : PV) (h : x.kind = y.kind) (w : World) : Calls Try.prog 13 #[.agg x.arr, .agg y.arr] w fun e w' => e = .returned (.bool (x.cmp y == 0)) ∧ Below w.heap.size w w' := by
  cases x <;> cases y <;> first | exact same1 _ _ _ _ _ _ w | exact same2 _ _ _ _ _ _ w | exact same3 _ _ _ _ _ _ w | exact absurd h (by simp [PV.kind])
/-- A plain value lies at an address. -/
def PV.Lies (w : World) (a : Addr) (v : PV) : Prop := ∀ j, j < 7 → w.cell? (a.add j) = some (v.cell j)
set_option maxRecDepth 100000 in
set_option maxHeartbeats 4000000 in
theorem set_closure (x y : PV) (h : x.kind = y.kind) (i : Int) (n c : Nat) (g bo bv : Nat) (w : World) (h0 : 0 ≤ i) (h1 : i < (n : Int)) (ho : w.cell? ⟨bo, 0, none⟩ = some (.slice (some ⟨g, 0, none⟩) n c))
    (hx : PV.Lies w ⟨g, i.toNat * 7, none⟩ x) (hy : PV.Lies w ⟨bv, 0, none⟩ y) :
    Calls Try.prog 34 #[.int .i64 i, .pointer (some ⟨bo, 0, none⟩), .pointer (some ⟨bv, 0, none⟩)] w fun e w' => e = .returned (.bool (!decide (x.cmp y < 0))) ∧ Below w.heap.size w w' := by
  have HB := Aside0.mk (Below.refl w.heap.size w)
  have hl := less_pv x y h
  have x0 : w.cell? ⟨g, i.toNat * 7, none⟩ = some (x.cell 0) := (congrArg w.cell? (show (⟨g, i.toNat * 7, none⟩ : Addr) = Addr.add ⟨g, i.toNat * 7, none⟩ 0 by simp [Addr.add])).trans (hx 0 (by decide))
  have x1 : w.cell? ⟨g, i.toNat * 7 + 1, none⟩ = some (x.cell 1) := (congrArg w.cell? (show (⟨g, i.toNat * 7 + 1, none⟩ : Addr) = Addr.add ⟨g, i.toNat * 7, none⟩ 1 by simp [Addr.add])).trans (hx 1 (by decide))
  have x2 : w.cell? ⟨g, i.toNat * 7 + 2, none⟩ = some (x.cell 2) := (congrArg w.cell? (show (⟨g, i.toNat * 7 + 2, none⟩ : Addr) = Addr.add ⟨g, i.toNat * 7, none⟩ 2 by simp [Addr.add])).trans (hx 2 (by decide))
  have x3 : w.cell? ⟨g, i.toNat * 7 + 3, none⟩ = some (x.cell 3) := (congrArg w.cell? (show (⟨g, i.toNat * 7 + 3, none⟩ : Addr) = Addr.add ⟨g, i.toNat * 7, none⟩ 3 by simp [Addr.add])).trans (hx 3 (by decide))
  have x4 : w.cell? ⟨g, i.toNat * 7 + 4, none⟩ = some (x.cell 4) := (congrArg w.cell? (show (⟨g, i.toNat * 7 + 4, none⟩ : Addr) = Addr.add ⟨g, i.toNat * 7, none⟩ 4 by simp [Addr.add])).trans (hx 4 (by decide))
  have x5 : w.cell? ⟨g, i.toNat * 7 + 5, none⟩ = some (x.cell 5) := (congrArg w.cell? (show (⟨g, i.toNat * 7 + 5, none⟩ : Addr) = Addr.add ⟨g, i.toNat * 7, none⟩ 5 by simp [Addr.add])).trans (hx 5 (by decide))
  have x6 : w.cell? ⟨g, i.toNat * 7 + 6, none⟩ = some (x.cell 6) := (congrArg w.cell? (show (⟨g, i.toNat * 7 + 6, none⟩ : Addr) = Addr.add ⟨g, i.toNat * 7, none⟩ 6 by simp [Addr.add])).trans (hx 6 (by decide))
  have y0 : w.cell? ⟨bv, 0, none⟩ = some (y.cell 0) := (congrArg w.cell? (show (⟨bv, 0, none⟩ : Addr) = Addr.add ⟨bv, 0, none⟩ 0 by simp [Addr.add])).trans (hy 0 (by decide))
  have y1 : w.cell? ⟨bv, 1, none⟩ = some (y.cell 1) := (congrArg w.cell? (show (⟨bv, 1, none⟩ : Addr) = Addr.add ⟨bv, 0, none⟩ 1 by simp [Addr.add])).trans (hy 1 (by decide))
  have y2 : w.cell? ⟨bv, 2, none⟩ = some (y.cell 2) := (congrArg w.cell? (show (⟨bv, 2, none⟩ : Addr) = Addr.add ⟨bv, 0, none⟩ 2 by simp [Addr.add])).trans (hy 2 (by decide))
  have y3 : w.cell? ⟨bv, 3, none⟩ = some (y.cell 3) := (congrArg w.cell? (show (⟨bv, 3, none⟩ : Addr) = Addr.add ⟨bv, 0, none⟩ 3 by simp [Addr.add])).trans (hy 3 (by decide))
  have y4 : w.cell? ⟨bv, 4, none⟩ = some (y.cell 4) := (congrArg w.cell? (show (⟨bv, 4, none⟩ : Addr) = Addr.add ⟨bv, 0, none⟩ 4 by simp [Addr.add])).trans (hy 4 (by decide))
  have y5 : w.cell? ⟨bv, 5, none⟩ = some (y.cell 5) := (congrArg w.cell? (show (⟨bv, 5, none⟩ : Addr) = Addr.add ⟨bv, 0, none⟩ 5 by simp [Addr.add])).trans (hy 5 (by decide))
  have y6 : w.cell? ⟨bv, 6, none⟩ = some (y.cell 6) := (congrArg w.cell? (show (⟨bv, 6, none⟩ : Addr) = Addr.add ⟨bv, 0, none⟩ 6 by simp [Addr.add])).trans (hy 6 (by decide))
  clear hx hy
  have h0t := eq_true h0
  have h1t := eq_true h1
  unfold PV.arr at hl
  generalize PV.cell 0 x = a0 at hl x0
  generalize PV.cell 1 x = a1 at hl x1
  generalize PV.cell 2 x = a2 at hl x2
  generalize PV.cell 3 x = a3 at hl x3
  generalize PV.cell 4 x = a4 at hl x4
  generalize PV.cell 5 x = a5 at hl x5
  generalize PV.cell 6 x = a6 at hl x6
  generalize PV.cell 0 y = b0 at hl y0
  generalize PV.cell 1 y = b1 at hl y1
  generalize PV.cell 2 y = b2 at hl y2
  generalize PV.cell 3 y = b3 at hl y3
  generalize PV.cell 4 y = b4 at hl y4
  generalize PV.cell 5 y = b5 at hl y5
  generalize PV.cell 6 y = b6 at hl y6
  go_enter Try.func34, Try.ntmps34
  go_wp2_with fail
  have hB0 := Below.refl w.heap.size w
  go_region_held3 (fun w' => w'.cell? ⟨bo, 0, none⟩ = some (.slice (some ⟨g, 0, none⟩) n c) ∧ w'.cell? ⟨g, i.toNat * 7, none⟩ = some a0 ∧ w'.cell? ⟨g, i.toNat * 7 + 1, none⟩ = some a1 ∧ w'.cell? ⟨g, i.toNat * 7 + 2, none⟩ = some a2 ∧ w'.cell? ⟨g, i.toNat * 7 + 3, none⟩ = some a3 ∧ w'.cell? ⟨g, i.toNat * 7 + 4, none⟩ = some a4 ∧ w'.cell? ⟨g, i.toNat * 7 + 5, none⟩ = some a5 ∧ w'.cell? ⟨g, i.toNat * 7 + 6, none⟩ = some a6 ∧ w'.cell? ⟨bv, 0, none⟩ = some b0 ∧ w'.cell? ⟨bv, 1, none⟩ = some b1 ∧ w'.cell? ⟨bv, 2, none⟩ = some b2 ∧ w'.cell? ⟨bv, 3, none⟩ = some b3 ∧ w'.cell? ⟨bv, 4, none⟩ = some b4 ∧ w'.cell? ⟨bv, 5, none⟩ = some b5 ∧ w'.cell? ⟨bv, 6, none⟩ = some b6 ∧ Below w.heap.size w w')
    ((first | (go_split_ands; refine ⟨?_, ?_, ?_, ?_, ?_, ?_, ?_, ?_, ?_, ?_, ?_, ?_, ?_, ?_, ?_, ?_⟩ <;> first | assumption | (apply below_drew1; assumption) | (simp; assumption) | exact (hb.cell (World.block_lt_of_cell? _ _ (by assumption))).trans (by assumption) | exact below_step (by assumption) hb) | (refine ⟨?_, ?_, ?_, ?_, ?_, ?_, ?_, ?_, ?_, ?_, ?_, ?_, ?_, ?_, ?_, ?_⟩ <;> first | assumption | (apply below_drew1; assumption) | (simp; assumption))))
    ((go_at_call 12; refine (hl _).mono ?_; rintro e w' ⟨rfl, hb⟩))
  go_split_ands
  go_wp2
  go_ret
  exact ⟨rfl, by assumption⟩
end Go.Proofs.Ytnjlggpidkbjcaa.GV
