import Derived.Test.YtakkmhcidbamjaaProg
import Derived.Below
import Derived.Deep.Draws
import Derived.Deep.AppendLies
import Derived.Maps.AppendAt
import Derived.OwnWalk
import Derived.Laws.BytesArg
import Derived.Laws.MakeOwn
import Derived.Laws.OwnMore
import Derived.Deep.OwnRows
import Derived.Tactics
import Derived.Lib.ConvBytes
import Derived.Laws.Slices
import Derived.WalkKit
import Derived.KernelRfl
import Derived.RowKit3
import Derived.Deep.LoopGhost
import Derived.Deep.QuietTactic
import Derived.BigQuiet
import Derived.WideLaws
import Derived.Deep.DeepCutAuto
import Derived.Deep.CutBlock
import Derived.Deep.RegionHeld3
import Derived.Laws.Rows
import Derived.Lib.AppendStr
import Derived.ArgAppend
import Derived.Laws.IdiomCopy
import Derived.OrdersHeld
import Derived.Laws.BitsLemmas
import Derived.RowKit
import Derived.Test.YtakkmhcidbamjaaHandV
import Derived.Lib.OthersKept
import Derived.Lib.Hide
import Derived.Test.YtakkmhcidbamjaaWWords
import Derived.Test.YtakkmhcidbamjaaWLast
import Derived.Test.YtakkmhcidbamjaaWTab
import Derived.Test.YtakkmhcidbamjaaWFour
import Derived.Test.YtakkmhcidbamjaaWQPut
import Derived.Test.YtakkmhcidbamjaaWApart
import Derived.Test.YtakkmhcidbamjaaGV0
import Derived.Test.YtakkmhcidbamjaaEv5
namespace Go.Proofs.Ytakkmhcidbamjaa.GV
open Go.RowKit Go.Proofs.YtakkmhcidbamjaaW.PrintWords Go.Proofs.YtakkmhcidbamjaaW.PrintLast Go.Proofs.Ytakkmhcidbamjaa.HandV Go.Proofs.YtakkmhcidbamjaaW.PrintMore
attribute [local go_sem] max2_int min2_int max_two min_two max_three min_three max_four min_four   -- for this text's walks alone
theorem cell_alloc {w : World} {o : Obj} {a : Addr} {v : Value} (h : w.cell? a = some v) : (w.alloc o).cell? a = some v :=
  (World.cell?_of_block (Below.heap_alloc w o _ (World.block_lt_of_cell? _ _ h))).trans h
theorem cell_drew {w : World} {a : Addr} {v : Value} (h : w.cell? a = some v) : w.drew.cell? a = some v := h
theorem Box.alloc {w : World} {b : Nat} (h : Box w b) (o : Obj) : Box (w.alloc o) b := (Below.heap_alloc w o b (lt_of_heap h)).trans h
theorem Box.after7 {w : World} {b g : Nat} {c0 c1 c2 c3 c4 c5 c6 : Value} (h : Box w g) (hne : g ≠ b) : Box (((((((w.setCell ⟨b, 0, none⟩ c0).setCell ⟨b, 1, none⟩ c1).setCell ⟨b, 2, none⟩ c2).setCell ⟨b, 3, none⟩ c3).setCell ⟨b, 4, none⟩ c4).setCell ⟨b, 5, none⟩ c5).setCell ⟨b, 6, none⟩ c6) g := (heap_after7 c0 c1 c2 c3 c4 c5 c6 hne).trans h
theorem Box.full {w : World} {b : Nat} {c0 c1 c2 c3 c4 c5 c6 : Value} (h : Box w b) : (((((((w.setCell ⟨b, 0, none⟩ c0).setCell ⟨b, 1, none⟩ c1).setCell ⟨b, 2, none⟩ c2).setCell ⟨b, 3, none⟩ c3).setCell ⟨b, 4, none⟩ c4).setCell ⟨b, 5, none⟩ c5).setCell ⟨b, 6, none⟩ c6).heap[b]? = some (.cells #[c0, c1, c2, c3, c4, c5, c6] 31 (0, 0)) := by
  have hd := h.done c0 c1 c2 c3 c4 c5 c6
  simp only [World.setCells] at hd
  exact hd
set_option maxRecDepth 100000 in
set_option maxHeartbeats 8000000 in
theorem expr_bin_err (op : Int) (h6 : 6 < op) (h23 : op < 23) (er : Int) (her : er ≠ 0) (eb : Bool) (en : Int) (s eu ev : ByteArray) (gk kn kc : Nat) (hkn : 2 ≤ kn) (k0 k1 k2 k3 k4 k5 k6 : Value) (w : World)
    (hk0 : w.cell? ⟨gk, 0, none⟩ = some k0)
    (hk1 : w.cell? ⟨gk, 1, none⟩ = some k1)
    (hk2 : w.cell? ⟨gk, 2, none⟩ = some k2)
    (hk3 : w.cell? ⟨gk, 3, none⟩ = some k3)
    (hk4 : w.cell? ⟨gk, 4, none⟩ = some k4)
    (hk5 : w.cell? ⟨gk, 5, none⟩ = some k5)
    (hk6 : w.cell? ⟨gk, 6, none⟩ = some k6)
    (hkid : ∀ W, Below w.heap.size w W → Calls Try.prog 9 #[.agg wd0, .agg #[k0, k1, k2, k3, k4, k5, k6]] W fun e w' => e = .returned (.tuple #[.agg #[.int .i64 0, .bool false, .int .i64 0, .string ⟨#[]⟩, .string ⟨#[]⟩, .string ⟨#[]⟩, .slice none 0 0], .int .i64 er]) ∧ Below W.heap.size W w') :
    Calls Try.prog 9 #[.agg wd0, .agg #[.int .i64 op, .bool eb, .int .i64 en, .string s, .string eu, .string ev, .slice (some ⟨gk, 0, none⟩) kn kc]] w fun e w' => e = .returned (.tuple #[.agg #[.int .i64 0, .bool false, .int .i64 0, .string ⟨#[]⟩, .string ⟨#[]⟩, .string ⟨#[]⟩, .slice none 0 0], .int .i64 er]) ∧ Below w.heap.size w w' := by
  unfold wd0 at hkid ⊢
  have o1 : decide (op < 6) = false := decide_eq_false (by omega)
  have o2 : (op == 6) = false := beq_eq_false_iff_ne.mpr (by omega)
  have o3 : decide (23 ≤ op) = false := decide_eq_false (by omega)
  have o4 : (op == 25) = false := beq_eq_false_iff_ne.mpr (by omega)
  have o5 : ((kn : Int) == 0) = false := beq_eq_false_iff_ne.mpr (by omega)
  have o6 : (er != 0) = true := bne_iff_ne.mpr her
  have o7 : ((0 : Int) < (kn : Int)) = True := eq_true (by omega)
  have o8 : (0 : Int) < (kn : Int) := by omega
  have o9 : (0 < kn) = True := eq_true (by omega)
  have hgk : gk < w.heap.size := World.block_lt_of_cell? _ _ hk0
  clear h6 h23 her
  go_enter Try.func9, Try.ntmps9
  go_wp2_with fail
  have x0 : (((w.alloc (Obj.cells #[Value.slice none 0 0, Value.string ⟨#[]⟩, Value.string ⟨#[]⟩, Value.string ⟨#[]⟩, Value.string ⟨#[]⟩, Value.string ⟨#[]⟩, Value.string ⟨#[]⟩] 43)).alloc (Obj.cells #[Value.int .i64 op, Value.bool eb, Value.int .i64 en, Value.string s, Value.string eu, Value.string ev, Value.slice (some ⟨gk, 0, none⟩) kn kc] 28)).alloc (Obj.cells #[Value.int .i64 0, Value.bool false, Value.int .i64 0, Value.string ⟨#[]⟩, Value.string ⟨#[]⟩, Value.string ⟨#[]⟩, Value.slice none 0 0] 31)).cell? ⟨w.heap.size, 0, none⟩ = some (Value.slice none 0 0) := by go_simp
  have x1 : (((w.alloc (Obj.cells #[Value.slice none 0 0, Value.string ⟨#[]⟩, Value.string ⟨#[]⟩, Value.string ⟨#[]⟩, Value.string ⟨#[]⟩, Value.string ⟨#[]⟩, Value.string ⟨#[]⟩] 43)).alloc (Obj.cells #[Value.int .i64 op, Value.bool eb, Value.int .i64 en, Value.string s, Value.string eu, Value.string ev, Value.slice (some ⟨gk, 0, none⟩) kn kc] 28)).alloc (Obj.cells #[Value.int .i64 0, Value.bool false, Value.int .i64 0, Value.string ⟨#[]⟩, Value.string ⟨#[]⟩, Value.string ⟨#[]⟩, Value.slice none 0 0] 31)).cell? ⟨w.heap.size, 1, none⟩ = some (Value.string ⟨#[]⟩) := by go_simp
  have x2 : (((w.alloc (Obj.cells #[Value.slice none 0 0, Value.string ⟨#[]⟩, Value.string ⟨#[]⟩, Value.string ⟨#[]⟩, Value.string ⟨#[]⟩, Value.string ⟨#[]⟩, Value.string ⟨#[]⟩] 43)).alloc (Obj.cells #[Value.int .i64 op, Value.bool eb, Value.int .i64 en, Value.string s, Value.string eu, Value.string ev, Value.slice (some ⟨gk, 0, none⟩) kn kc] 28)).alloc (Obj.cells #[Value.int .i64 0, Value.bool false, Value.int .i64 0, Value.string ⟨#[]⟩, Value.string ⟨#[]⟩, Value.string ⟨#[]⟩, Value.slice none 0 0] 31)).cell? ⟨w.heap.size, 2, none⟩ = some (Value.string ⟨#[]⟩) := by go_simp
  have x3 : (((w.alloc (Obj.cells #[Value.slice none 0 0, Value.string ⟨#[]⟩, Value.string ⟨#[]⟩, Value.string ⟨#[]⟩, Value.string ⟨#[]⟩, Value.string ⟨#[]⟩, Value.string ⟨#[]⟩] 43)).alloc (Obj.cells #[Value.int .i64 op, Value.bool eb, Value.int .i64 en, Value.string s, Value.string eu, Value.string ev, Value.slice (some ⟨gk, 0, none⟩) kn kc] 28)).alloc (Obj.cells #[Value.int .i64 0, Value.bool false, Value.int .i64 0, Value.string ⟨#[]⟩, Value.string ⟨#[]⟩, Value.string ⟨#[]⟩, Value.slice none 0 0] 31)).cell? ⟨w.heap.size, 3, none⟩ = some (Value.string ⟨#[]⟩) := by go_simp
  have x4 : (((w.alloc (Obj.cells #[Value.slice none 0 0, Value.string ⟨#[]⟩, Value.string ⟨#[]⟩, Value.string ⟨#[]⟩, Value.string ⟨#[]⟩, Value.string ⟨#[]⟩, Value.string ⟨#[]⟩] 43)).alloc (Obj.cells #[Value.int .i64 op, Value.bool eb, Value.int .i64 en, Value.string s, Value.string eu, Value.string ev, Value.slice (some ⟨gk, 0, none⟩) kn kc] 28)).alloc (Obj.cells #[Value.int .i64 0, Value.bool false, Value.int .i64 0, Value.string ⟨#[]⟩, Value.string ⟨#[]⟩, Value.string ⟨#[]⟩, Value.slice none 0 0] 31)).cell? ⟨w.heap.size, 4, none⟩ = some (Value.string ⟨#[]⟩) := by go_simp
  have x5 : (((w.alloc (Obj.cells #[Value.slice none 0 0, Value.string ⟨#[]⟩, Value.string ⟨#[]⟩, Value.string ⟨#[]⟩, Value.string ⟨#[]⟩, Value.string ⟨#[]⟩, Value.string ⟨#[]⟩] 43)).alloc (Obj.cells #[Value.int .i64 op, Value.bool eb, Value.int .i64 en, Value.string s, Value.string eu, Value.string ev, Value.slice (some ⟨gk, 0, none⟩) kn kc] 28)).alloc (Obj.cells #[Value.int .i64 0, Value.bool false, Value.int .i64 0, Value.string ⟨#[]⟩, Value.string ⟨#[]⟩, Value.string ⟨#[]⟩, Value.slice none 0 0] 31)).cell? ⟨w.heap.size, 5, none⟩ = some (Value.string ⟨#[]⟩) := by go_simp
  have x6 : (((w.alloc (Obj.cells #[Value.slice none 0 0, Value.string ⟨#[]⟩, Value.string ⟨#[]⟩, Value.string ⟨#[]⟩, Value.string ⟨#[]⟩, Value.string ⟨#[]⟩, Value.string ⟨#[]⟩] 43)).alloc (Obj.cells #[Value.int .i64 op, Value.bool eb, Value.int .i64 en, Value.string s, Value.string eu, Value.string ev, Value.slice (some ⟨gk, 0, none⟩) kn kc] 28)).alloc (Obj.cells #[Value.int .i64 0, Value.bool false, Value.int .i64 0, Value.string ⟨#[]⟩, Value.string ⟨#[]⟩, Value.string ⟨#[]⟩, Value.slice none 0 0] 31)).cell? ⟨w.heap.size, 6, none⟩ = some (Value.string ⟨#[]⟩) := by go_simp
  have x7 : (((w.alloc (Obj.cells #[Value.slice none 0 0, Value.string ⟨#[]⟩, Value.string ⟨#[]⟩, Value.string ⟨#[]⟩, Value.string ⟨#[]⟩, Value.string ⟨#[]⟩, Value.string ⟨#[]⟩] 43)).alloc (Obj.cells #[Value.int .i64 op, Value.bool eb, Value.int .i64 en, Value.string s, Value.string eu, Value.string ev, Value.slice (some ⟨gk, 0, none⟩) kn kc] 28)).alloc (Obj.cells #[Value.int .i64 0, Value.bool false, Value.int .i64 0, Value.string ⟨#[]⟩, Value.string ⟨#[]⟩, Value.string ⟨#[]⟩, Value.slice none 0 0] 31)).cell? ⟨w.heap.size + 1, 0, none⟩ = some (Value.int .i64 op) := by go_simp
  have x8 : (((w.alloc (Obj.cells #[Value.slice none 0 0, Value.string ⟨#[]⟩, Value.string ⟨#[]⟩, Value.string ⟨#[]⟩, Value.string ⟨#[]⟩, Value.string ⟨#[]⟩, Value.string ⟨#[]⟩] 43)).alloc (Obj.cells #[Value.int .i64 op, Value.bool eb, Value.int .i64 en, Value.string s, Value.string eu, Value.string ev, Value.slice (some ⟨gk, 0, none⟩) kn kc] 28)).alloc (Obj.cells #[Value.int .i64 0, Value.bool false, Value.int .i64 0, Value.string ⟨#[]⟩, Value.string ⟨#[]⟩, Value.string ⟨#[]⟩, Value.slice none 0 0] 31)).cell? ⟨w.heap.size + 1, 1, none⟩ = some (Value.bool eb) := by go_simp
  have x9 : (((w.alloc (Obj.cells #[Value.slice none 0 0, Value.string ⟨#[]⟩, Value.string ⟨#[]⟩, Value.string ⟨#[]⟩, Value.string ⟨#[]⟩, Value.string ⟨#[]⟩, Value.string ⟨#[]⟩] 43)).alloc (Obj.cells #[Value.int .i64 op, Value.bool eb, Value.int .i64 en, Value.string s, Value.string eu, Value.string ev, Value.slice (some ⟨gk, 0, none⟩) kn kc] 28)).alloc (Obj.cells #[Value.int .i64 0, Value.bool false, Value.int .i64 0, Value.string ⟨#[]⟩, Value.string ⟨#[]⟩, Value.string ⟨#[]⟩, Value.slice none 0 0] 31)).cell? ⟨w.heap.size + 1, 2, none⟩ = some (Value.int .i64 en) := by go_simp
  have x10 : (((w.alloc (Obj.cells #[Value.slice none 0 0, Value.string ⟨#[]⟩, Value.string ⟨#[]⟩, Value.string ⟨#[]⟩, Value.string ⟨#[]⟩, Value.string ⟨#[]⟩, Value.string ⟨#[]⟩] 43)).alloc (Obj.cells #[Value.int .i64 op, Value.bool eb, Value.int .i64 en, Value.string s, Value.string eu, Value.string ev, Value.slice (some ⟨gk, 0, none⟩) kn kc] 28)).alloc (Obj.cells #[Value.int .i64 0, Value.bool false, Value.int .i64 0, Value.string ⟨#[]⟩, Value.string ⟨#[]⟩, Value.string ⟨#[]⟩, Value.slice none 0 0] 31)).cell? ⟨w.heap.size + 1, 3, none⟩ = some (Value.string s) := by go_simp
  have x11 : (((w.alloc (Obj.cells #[Value.slice none 0 0, Value.string ⟨#[]⟩, Value.string ⟨#[]⟩, Value.string ⟨#[]⟩, Value.string ⟨#[]⟩, Value.string ⟨#[]⟩, Value.string ⟨#[]⟩] 43)).alloc (Obj.cells #[Value.int .i64 op, Value.bool eb, Value.int .i64 en, Value.string s, Value.string eu, Value.string ev, Value.slice (some ⟨gk, 0, none⟩) kn kc] 28)).alloc (Obj.cells #[Value.int .i64 0, Value.bool false, Value.int .i64 0, Value.string ⟨#[]⟩, Value.string ⟨#[]⟩, Value.string ⟨#[]⟩, Value.slice none 0 0] 31)).cell? ⟨w.heap.size + 1, 4, none⟩ = some (Value.string eu) := by go_simp
  have x12 : (((w.alloc (Obj.cells #[Value.slice none 0 0, Value.string ⟨#[]⟩, Value.string ⟨#[]⟩, Value.string ⟨#[]⟩, Value.string ⟨#[]⟩, Value.string ⟨#[]⟩, Value.string ⟨#[]⟩] 43)).alloc (Obj.cells #[Value.int .i64 op, Value.bool eb, Value.int .i64 en, Value.string s, Value.string eu, Value.string ev, Value.slice (some ⟨gk, 0, none⟩) kn kc] 28)).alloc (Obj.cells #[Value.int .i64 0, Value.bool false, Value.int .i64 0, Value.string ⟨#[]⟩, Value.string ⟨#[]⟩, Value.string ⟨#[]⟩, Value.slice none 0 0] 31)).cell? ⟨w.heap.size + 1, 5, none⟩ = some (Value.string ev) := by go_simp
  have x13 : (((w.alloc (Obj.cells #[Value.slice none 0 0, Value.string ⟨#[]⟩, Value.string ⟨#[]⟩, Value.string ⟨#[]⟩, Value.string ⟨#[]⟩, Value.string ⟨#[]⟩, Value.string ⟨#[]⟩] 43)).alloc (Obj.cells #[Value.int .i64 op, Value.bool eb, Value.int .i64 en, Value.string s, Value.string eu, Value.string ev, Value.slice (some ⟨gk, 0, none⟩) kn kc] 28)).alloc (Obj.cells #[Value.int .i64 0, Value.bool false, Value.int .i64 0, Value.string ⟨#[]⟩, Value.string ⟨#[]⟩, Value.string ⟨#[]⟩, Value.slice none 0 0] 31)).cell? ⟨w.heap.size + 1, 6, none⟩ = some (Value.slice (some ⟨gk, 0, none⟩) kn kc) := by go_simp
  have x14 : (((w.alloc (Obj.cells #[Value.slice none 0 0, Value.string ⟨#[]⟩, Value.string ⟨#[]⟩, Value.string ⟨#[]⟩, Value.string ⟨#[]⟩, Value.string ⟨#[]⟩, Value.string ⟨#[]⟩] 43)).alloc (Obj.cells #[Value.int .i64 op, Value.bool eb, Value.int .i64 en, Value.string s, Value.string eu, Value.string ev, Value.slice (some ⟨gk, 0, none⟩) kn kc] 28)).alloc (Obj.cells #[Value.int .i64 0, Value.bool false, Value.int .i64 0, Value.string ⟨#[]⟩, Value.string ⟨#[]⟩, Value.string ⟨#[]⟩, Value.slice none 0 0] 31)).cell? ⟨gk, 0, none⟩ = some k0 := cell_alloc (cell_alloc (cell_alloc hk0))
  have x15 : (((w.alloc (Obj.cells #[Value.slice none 0 0, Value.string ⟨#[]⟩, Value.string ⟨#[]⟩, Value.string ⟨#[]⟩, Value.string ⟨#[]⟩, Value.string ⟨#[]⟩, Value.string ⟨#[]⟩] 43)).alloc (Obj.cells #[Value.int .i64 op, Value.bool eb, Value.int .i64 en, Value.string s, Value.string eu, Value.string ev, Value.slice (some ⟨gk, 0, none⟩) kn kc] 28)).alloc (Obj.cells #[Value.int .i64 0, Value.bool false, Value.int .i64 0, Value.string ⟨#[]⟩, Value.string ⟨#[]⟩, Value.string ⟨#[]⟩, Value.slice none 0 0] 31)).cell? ⟨gk, 1, none⟩ = some k1 := cell_alloc (cell_alloc (cell_alloc hk1))
  have x16 : (((w.alloc (Obj.cells #[Value.slice none 0 0, Value.string ⟨#[]⟩, Value.string ⟨#[]⟩, Value.string ⟨#[]⟩, Value.string ⟨#[]⟩, Value.string ⟨#[]⟩, Value.string ⟨#[]⟩] 43)).alloc (Obj.cells #[Value.int .i64 op, Value.bool eb, Value.int .i64 en, Value.string s, Value.string eu, Value.string ev, Value.slice (some ⟨gk, 0, none⟩) kn kc] 28)).alloc (Obj.cells #[Value.int .i64 0, Value.bool false, Value.int .i64 0, Value.string ⟨#[]⟩, Value.string ⟨#[]⟩, Value.string ⟨#[]⟩, Value.slice none 0 0] 31)).cell? ⟨gk, 2, none⟩ = some k2 := cell_alloc (cell_alloc (cell_alloc hk2))
  have x17 : (((w.alloc (Obj.cells #[Value.slice none 0 0, Value.string ⟨#[]⟩, Value.string ⟨#[]⟩, Value.string ⟨#[]⟩, Value.string ⟨#[]⟩, Value.string ⟨#[]⟩, Value.string ⟨#[]⟩] 43)).alloc (Obj.cells #[Value.int .i64 op, Value.bool eb, Value.int .i64 en, Value.string s, Value.string eu, Value.string ev, Value.slice (some ⟨gk, 0, none⟩) kn kc] 28)).alloc (Obj.cells #[Value.int .i64 0, Value.bool false, Value.int .i64 0, Value.string ⟨#[]⟩, Value.string ⟨#[]⟩, Value.string ⟨#[]⟩, Value.slice none 0 0] 31)).cell? ⟨gk, 3, none⟩ = some k3 := cell_alloc (cell_alloc (cell_alloc hk3))
  have x18 : (((w.alloc (Obj.cells #[Value.slice none 0 0, Value.string ⟨#[]⟩, Value.string ⟨#[]⟩, Value.string ⟨#[]⟩, Value.string ⟨#[]⟩, Value.string ⟨#[]⟩, Value.string ⟨#[]⟩] 43)).alloc (Obj.cells #[Value.int .i64 op, Value.bool eb, Value.int .i64 en, Value.string s, Value.string eu, Value.string ev, Value.slice (some ⟨gk, 0, none⟩) kn kc] 28)).alloc (Obj.cells #[Value.int .i64 0, Value.bool false, Value.int .i64 0, Value.string ⟨#[]⟩, Value.string ⟨#[]⟩, Value.string ⟨#[]⟩, Value.slice none 0 0] 31)).cell? ⟨gk, 4, none⟩ = some k4 := cell_alloc (cell_alloc (cell_alloc hk4))
  have x19 : (((w.alloc (Obj.cells #[Value.slice none 0 0, Value.string ⟨#[]⟩, Value.string ⟨#[]⟩, Value.string ⟨#[]⟩, Value.string ⟨#[]⟩, Value.string ⟨#[]⟩, Value.string ⟨#[]⟩] 43)).alloc (Obj.cells #[Value.int .i64 op, Value.bool eb, Value.int .i64 en, Value.string s, Value.string eu, Value.string ev, Value.slice (some ⟨gk, 0, none⟩) kn kc] 28)).alloc (Obj.cells #[Value.int .i64 0, Value.bool false, Value.int .i64 0, Value.string ⟨#[]⟩, Value.string ⟨#[]⟩, Value.string ⟨#[]⟩, Value.slice none 0 0] 31)).cell? ⟨gk, 5, none⟩ = some k5 := cell_alloc (cell_alloc (cell_alloc hk5))
  have x20 : (((w.alloc (Obj.cells #[Value.slice none 0 0, Value.string ⟨#[]⟩, Value.string ⟨#[]⟩, Value.string ⟨#[]⟩, Value.string ⟨#[]⟩, Value.string ⟨#[]⟩, Value.string ⟨#[]⟩] 43)).alloc (Obj.cells #[Value.int .i64 op, Value.bool eb, Value.int .i64 en, Value.string s, Value.string eu, Value.string ev, Value.slice (some ⟨gk, 0, none⟩) kn kc] 28)).alloc (Obj.cells #[Value.int .i64 0, Value.bool false, Value.int .i64 0, Value.string ⟨#[]⟩, Value.string ⟨#[]⟩, Value.string ⟨#[]⟩, Value.slice none 0 0] 31)).cell? ⟨gk, 6, none⟩ = some k6 := cell_alloc (cell_alloc (cell_alloc hk6))
  have xb : Box (((w.alloc (Obj.cells #[Value.slice none 0 0, Value.string ⟨#[]⟩, Value.string ⟨#[]⟩, Value.string ⟨#[]⟩, Value.string ⟨#[]⟩, Value.string ⟨#[]⟩, Value.string ⟨#[]⟩] 43)).alloc (Obj.cells #[Value.int .i64 op, Value.bool eb, Value.int .i64 en, Value.string s, Value.string eu, Value.string ev, Value.slice (some ⟨gk, 0, none⟩) kn kc] 28)).alloc (Obj.cells #[Value.int .i64 0, Value.bool false, Value.int .i64 0, Value.string ⟨#[]⟩, Value.string ⟨#[]⟩, Value.string ⟨#[]⟩, Value.slice none 0 0] 31)) (w.heap.size + 1 + 1) := (by repeat (first | exact blk_at _ _ _ (by simp; done) | (refine (Below.heap_alloc _ _ _ (by first | (simp; done) | (simp; omega))).trans ?_)))
  have xl : Below w.heap.size w (((w.alloc (Obj.cells #[Value.slice none 0 0, Value.string ⟨#[]⟩, Value.string ⟨#[]⟩, Value.string ⟨#[]⟩, Value.string ⟨#[]⟩, Value.string ⟨#[]⟩, Value.string ⟨#[]⟩] 43)).alloc (Obj.cells #[Value.int .i64 op, Value.bool eb, Value.int .i64 en, Value.string s, Value.string eu, Value.string ev, Value.slice (some ⟨gk, 0, none⟩) kn kc] 28)).alloc (Obj.cells #[Value.int .i64 0, Value.bool false, Value.int .i64 0, Value.string ⟨#[]⟩, Value.string ⟨#[]⟩, Value.string ⟨#[]⟩, Value.slice none 0 0] 31)) := by repeat (first | exact Below.refl _ _ | apply below_alloc)
  have xs : (((w.alloc (Obj.cells #[Value.slice none 0 0, Value.string ⟨#[]⟩, Value.string ⟨#[]⟩, Value.string ⟨#[]⟩, Value.string ⟨#[]⟩, Value.string ⟨#[]⟩, Value.string ⟨#[]⟩] 43)).alloc (Obj.cells #[Value.int .i64 op, Value.bool eb, Value.int .i64 en, Value.string s, Value.string eu, Value.string ev, Value.slice (some ⟨gk, 0, none⟩) kn kc] 28)).alloc (Obj.cells #[Value.int .i64 0, Value.bool false, Value.int .i64 0, Value.string ⟨#[]⟩, Value.string ⟨#[]⟩, Value.string ⟨#[]⟩, Value.slice none 0 0] 31)).heap.size = w.heap.size + 1 + 1 + 1 := by simp
  generalize (((w.alloc (Obj.cells #[Value.slice none 0 0, Value.string ⟨#[]⟩, Value.string ⟨#[]⟩, Value.string ⟨#[]⟩, Value.string ⟨#[]⟩, Value.string ⟨#[]⟩, Value.string ⟨#[]⟩] 43)).alloc (Obj.cells #[Value.int .i64 op, Value.bool eb, Value.int .i64 en, Value.string s, Value.string eu, Value.string ev, Value.slice (some ⟨gk, 0, none⟩) kn kc] 28)).alloc (Obj.cells #[Value.int .i64 0, Value.bool false, Value.int .i64 0, Value.string ⟨#[]⟩, Value.string ⟨#[]⟩, Value.string ⟨#[]⟩, Value.slice none 0 0] 31)) = V at x0 x1 x2 x3 x4 x5 x6 x7 x8 x9 x10 x11 x12 x13 x14 x15 x16 x17 x18 x19 x20 xb xl xs ⊢
  have y0 : V.drew.cell? ⟨w.heap.size, 0, none⟩ = some (Value.slice none 0 0) := x0
  have y1 : V.drew.cell? ⟨w.heap.size, 1, none⟩ = some (Value.string ⟨#[]⟩) := x1
  have y2 : V.drew.cell? ⟨w.heap.size, 2, none⟩ = some (Value.string ⟨#[]⟩) := x2
  have y3 : V.drew.cell? ⟨w.heap.size, 3, none⟩ = some (Value.string ⟨#[]⟩) := x3
  have y4 : V.drew.cell? ⟨w.heap.size, 4, none⟩ = some (Value.string ⟨#[]⟩) := x4
  have y5 : V.drew.cell? ⟨w.heap.size, 5, none⟩ = some (Value.string ⟨#[]⟩) := x5
  have y6 : V.drew.cell? ⟨w.heap.size, 6, none⟩ = some (Value.string ⟨#[]⟩) := x6
  have y7 : V.drew.cell? ⟨w.heap.size + 1, 0, none⟩ = some (Value.int .i64 op) := x7
  have y8 : V.drew.cell? ⟨w.heap.size + 1, 1, none⟩ = some (Value.bool eb) := x8
  have y9 : V.drew.cell? ⟨w.heap.size + 1, 2, none⟩ = some (Value.int .i64 en) := x9
  have y10 : V.drew.cell? ⟨w.heap.size + 1, 3, none⟩ = some (Value.string s) := x10
  have y11 : V.drew.cell? ⟨w.heap.size + 1, 4, none⟩ = some (Value.string eu) := x11
  have y12 : V.drew.cell? ⟨w.heap.size + 1, 5, none⟩ = some (Value.string ev) := x12
  have y13 : V.drew.cell? ⟨w.heap.size + 1, 6, none⟩ = some (Value.slice (some ⟨gk, 0, none⟩) kn kc) := x13
  have y14 : V.drew.cell? ⟨gk, 0, none⟩ = some k0 := x14
  have y15 : V.drew.cell? ⟨gk, 1, none⟩ = some k1 := x15
  have y16 : V.drew.cell? ⟨gk, 2, none⟩ = some k2 := x16
  have y17 : V.drew.cell? ⟨gk, 3, none⟩ = some k3 := x17
  have y18 : V.drew.cell? ⟨gk, 4, none⟩ = some k4 := x18
  have y19 : V.drew.cell? ⟨gk, 5, none⟩ = some k5 := x19
  have y20 : V.drew.cell? ⟨gk, 6, none⟩ = some k6 := x20
  have yb : Box V.drew (w.heap.size + 1 + 1) := xb
  have yl : Below w.heap.size w V.drew := below_drew1 xl
  have ys : V.drew.heap.size = w.heap.size + 1 + 1 + 1 := xs
  go_region_held3 (fun W => W.cell? ⟨w.heap.size, 0, none⟩ = some (Value.slice none 0 0) ∧ W.cell? ⟨w.heap.size, 1, none⟩ = some (Value.string ⟨#[]⟩) ∧ W.cell? ⟨w.heap.size, 2, none⟩ = some (Value.string ⟨#[]⟩) ∧ W.cell? ⟨w.heap.size, 3, none⟩ = some (Value.string ⟨#[]⟩) ∧ W.cell? ⟨w.heap.size, 4, none⟩ = some (Value.string ⟨#[]⟩) ∧ W.cell? ⟨w.heap.size, 5, none⟩ = some (Value.string ⟨#[]⟩) ∧ W.cell? ⟨w.heap.size, 6, none⟩ = some (Value.string ⟨#[]⟩) ∧ W.cell? ⟨w.heap.size + 1, 0, none⟩ = some (Value.int .i64 op) ∧ W.cell? ⟨w.heap.size + 1, 1, none⟩ = some (Value.bool eb) ∧ W.cell? ⟨w.heap.size + 1, 2, none⟩ = some (Value.int .i64 en) ∧ W.cell? ⟨w.heap.size + 1, 3, none⟩ = some (Value.string s) ∧ W.cell? ⟨w.heap.size + 1, 4, none⟩ = some (Value.string eu) ∧ W.cell? ⟨w.heap.size + 1, 5, none⟩ = some (Value.string ev) ∧ W.cell? ⟨w.heap.size + 1, 6, none⟩ = some (Value.slice (some ⟨gk, 0, none⟩) kn kc) ∧ W.cell? ⟨gk, 0, none⟩ = some k0 ∧ W.cell? ⟨gk, 1, none⟩ = some k1 ∧ W.cell? ⟨gk, 2, none⟩ = some k2 ∧ W.cell? ⟨gk, 3, none⟩ = some k3 ∧ W.cell? ⟨gk, 4, none⟩ = some k4 ∧ W.cell? ⟨gk, 5, none⟩ = some k5 ∧ W.cell? ⟨gk, 6, none⟩ = some k6 ∧ Box W (w.heap.size + 1 + 1) ∧ Below w.heap.size w W)
    ((first | ((try go_split_ands); refine ⟨?_, ?_, ?_, ?_, ?_, ?_, ?_, ?_, ?_, ?_, ?_, ?_, ?_, ?_, ?_, ?_, ?_, ?_, ?_, ?_, ?_, ?_, ?_⟩ <;> first | (with_reducible assumption) | (with_reducible exact cell_after7 (by with_reducible assumption) (by omega)) | (with_reducible exact below_after7 (by with_reducible assumption) (by omega)) | (with_reducible exact Box.after7 (by with_reducible assumption) (by omega)) | (with_reducible exact (hb.cell (World.block_lt_of_cell? _ _ (by with_reducible assumption))).trans (by with_reducible assumption)) | (with_reducible exact below_step (by with_reducible assumption) hb) | (with_reducible exact Box.mono (by with_reducible assumption) hb) | (with_reducible exact cell_alloc (by with_reducible assumption)) | (with_reducible exact cell_drew (cell_alloc (by with_reducible assumption))) | (with_reducible exact below_drew1 (below_alloc (by with_reducible assumption) _)) | (with_reducible exact Box.drew (Box.alloc (by with_reducible assumption) _)) | (with_reducible exact below_alloc (by with_reducible assumption) _) | (with_reducible exact Box.alloc (by with_reducible assumption) _))))
    ((first | (go_at_call 9; refine (hkid _ ?_).mono ?_; (first | (with_reducible exact yl) | (with_reducible exact below_drew1 (below_alloc xl _)) | (with_reducible exact below_alloc yl _)); rintro e w' ⟨rfl, hb⟩; have HR : Aside0 (Box w' (w.heap.size + 1 + 1)) := ⟨by first | (with_reducible exact Box.mono yb hb) | (with_reducible exact Box.mono (Box.drew (Box.alloc xb _)) hb) | (with_reducible exact Box.mono (Box.alloc yb _) hb)⟩; have HL : Aside0 (Below w.heap.size w w') := ⟨by first | (with_reducible exact below_step yl hb) | (with_reducible exact below_step (below_drew1 (below_alloc xl _)) hb) | (with_reducible exact below_step (below_alloc yl _) hb)⟩; have r0 := HR.out.c0; have r1 := HR.out.c1; have r2 := HR.out.c2; have r3 := HR.out.c3; have r4 := HR.out.c4; have r5 := HR.out.c5; have r6 := HR.out.c6; have r7 := HR.out.fr; have hsz := lt_of_heap HR.out; first | (have HQ : Box w' (w.heap.size + 1 + 1 + 1) := (hb.block _ (by simp [xs]; done)).trans (by rw [← xs]; exact blk_new _ _); have q0 := HQ.c0; have q1 := HQ.c1; have q2 := HQ.c2; have q3 := HQ.c3; have q4 := HQ.c4; have q5 := HQ.c5; have q6 := HQ.c6; have q7 := HQ.fr) | skip)))
  all_goals go_split_ands
  all_goals go_wp2
  all_goals (try simp only [Exit.inBlock, Exit.then])
  all_goals refine bodyPost_ret (results_row_tmp rfl _ _ (w.heap.size + 1 + 1) 31 #[.int .i64 0, .bool false, .int .i64 0, .string ⟨#[]⟩, .string ⟨#[]⟩, .string ⟨#[]⟩, .slice none 0 0] (0, 0) _ rfl ?_ Try.underlying31 rfl (by kernel_rfl)) rfl ?_
  all_goals first | (with_reducible exact (Below.heap_alloc _ _ _ (lt_of_heap (Box.full HR.out))).trans (Box.full HR.out)) | (with_reducible exact Box.full (Box.after7 HR.out (by omega))) | (refine ⟨rfl, ?_⟩; first | (with_reducible exact below_alloc (below_after7 HL.out (by omega)) _) | (with_reducible exact below_after7 (below_after7 HL.out (by omega)) (by omega)))
end Go.Proofs.Ytakkmhcidbamjaa.GV
