import Derived.Test.YtakkmhcidbamjaaProg
import Derived.Below
import Derived.Deep.Draws
import Derived.Deep.AppendLies
import Derived.Maps.AppendAt
import Derived.OwnWalk
import Derived.Laws.BytesArg
import Derived.Laws.MakeOwn
import Derived.Laws.OwnMore
import Derived.Deep.OwnRows
import Derived.Tactics
import Derived.Lib.ConvBytes
import Derived.Laws.Slices
import Derived.WalkKit
import Derived.KernelRfl
import Derived.RowKit3
import Derived.Deep.LoopGhost
import Derived.Deep.QuietTactic
import Derived.BigQuiet
import Derived.WideLaws
import Derived.Deep.DeepCutAuto
import Derived.Deep.CutBlock
import Derived.Deep.RegionHeld3
import Derived.Laws.Rows
import Derived.Lib.AppendStr
import Derived.ArgAppend
import Derived.Laws.IdiomCopy
import Derived.OrdersHeld
import Derived.Laws.BitsLemmas
import Derived.RowKit
import Derived.Test.YtakkmhcidbamjaaHandV
import Derived.Lib.OthersKept
import Derived.Lib.Hide
import Derived.Test.YtakkmhcidbamjaaWWords
import Derived.Test.YtakkmhcidbamjaaWLast
import Derived.Test.YtakkmhcidbamjaaWTab
import Derived.Test.YtakkmhcidbamjaaWFour
import Derived.Test.YtakkmhcidbamjaaWQPut
import Derived.Test.YtakkmhcidbamjaaWApart
import Derived.Test.YtakkmhcidbamjaaGV0
import Derived.Laws.ResultCell
import Derived.Laws.Rows
import Derived.Test.YtakkmhcidbamjaaGV3
namespace Go.Proofs.Ytakkmhcidbamjaa.GV
open Go.RowKit Go.Proofs.YtakkmhcidbamjaaW.PrintWords Go.Proofs.YtakkmhcidbamjaaW.PrintLast Go.Proofs.Ytakkmhcidbamjaa.HandV Go.Proofs.YtakkmhcidbamjaaW.PrintMore
attribute [local go_sem] max2_int min2_int max_two min_two max_three min_three max_four min_four   -- for this text's walks alone
theorem setCell_heap (w : World) (b o : Nat) (v : Value) (cur : List Value) (e : TypeId) (fz : Nat × Nat) (h : w.heap[b]? = some (.cells cur.toArray e fz)) :
    (w.setCell ⟨b, o, none⟩ v).heap[b]? = some (.cells (cur.set o v).toArray e fz) := by
  have hlt : b < w.heap.size := (Array.getElem?_eq_some_iff.1 h).1
  have hv : w.heap[b] = .cells cur.toArray e fz := (Array.getElem?_eq_some_iff.1 h).2
  unfold World.setCell
  rw [Array.getElem?_eq_getElem (by simpa using hlt), Array.getElem_modify]
  simp [hv]
theorem setCells_heap (b : Nat) (e : TypeId) (fz : Nat × Nat) : ∀ (vs : List Value) (o : Nat) (w : World) (cur : List Value), w.heap[b]? = some (.cells cur.toArray e fz) → o + vs.length ≤ cur.length →
    (w.setCells b o vs).heap[b]? = some (.cells (cur.take o ++ vs ++ cur.drop (o + vs.length)).toArray e fz)
  | [], o, w, cur, h, _ => by simpa [World.setCells] using h
  | v :: r, o, w, cur, h, hl => by
    have hl2 : o + (r.length + 1) ≤ cur.length := by simpa using hl
    have h1 := setCells_heap b e fz r (o + 1) _ _ (setCell_heap w b o v cur e fz h) (by rw [List.length_set]; omega)
    rw [World.setCells, h1]
    have e1 : (cur.set o v).take (o + 1) = cur.take o ++ [v] := by
      rw [List.take_succ_eq_append_getElem (by rw [List.length_set]; omega), List.take_set_of_le (Nat.le_refl o)]
      simp
    have e2 : (cur.set o v).drop (o + 1 + r.length) = cur.drop (o + (v :: r).length) := by
      rw [List.drop_set_of_lt (by omega), List.length_cons, Nat.add_assoc, Nat.add_comm 1]
    rw [e1, e2]
    simp
theorem below_cells {B : Nat} (b : Nat) (hb : B ≤ b) : ∀ (vs : List Value) (o : Nat) (w : World), Below B w (w.setCells b o vs)
  | [], _, w => Below.refl _ w
  | v :: vs, o, w => ((Below.refl B w).setCell (p := ⟨b, o, none⟩) hb v).trans (below_cells b hb vs (o + 1) _)
theorem lt_of_heap {w : World} {k : Nat} {o : Obj} (h : w.heap[k]? = some o) : k < w.heap.size := (Array.getElem?_eq_some_iff.1 h).1
theorem store_of {v : Value} (h : v.oneCell' = true) : ∀ (a : Addr) (m : Mode) (w : World), (store a v m).run Try.prog w = stored Try.prog w a v m := fun a m w => run_store Try.prog w a v m h
/-- The box of a result, not yet filled. -/
def Box (w : World) (b : Nat) : Prop := w.heap[b]? = some (.cells #[.int .i64 0, .bool false, .int .i64 0, .string ⟨#[]⟩, .string ⟨#[]⟩, .string ⟨#[]⟩, .slice none 0 0] 31 (0, 0))
theorem Box.mono {w w' : World} {b : Nat} (h : Box w b) (hb : Below w.heap.size w w') : Box w' b := (hb.block b (lt_of_heap h)).trans h
theorem Box.c0 {w : World} {b : Nat} (h : Box w b) : w.cell? ⟨b, 0, none⟩ = some (.int .i64 0) := by unfold World.cell?; rw [h]; rfl
theorem Box.c1 {w : World} {b : Nat} (h : Box w b) : w.cell? ⟨b, 1, none⟩ = some (.bool false) := by unfold World.cell?; rw [h]; rfl
theorem Box.c2 {w : World} {b : Nat} (h : Box w b) : w.cell? ⟨b, 2, none⟩ = some (.int .i64 0) := by unfold World.cell?; rw [h]; rfl
theorem Box.c3 {w : World} {b : Nat} (h : Box w b) : w.cell? ⟨b, 3, none⟩ = some (.string ⟨#[]⟩) := by unfold World.cell?; rw [h]; rfl
theorem Box.c4 {w : World} {b : Nat} (h : Box w b) : w.cell? ⟨b, 4, none⟩ = some (.string ⟨#[]⟩) := by unfold World.cell?; rw [h]; rfl
theorem Box.c5 {w : World} {b : Nat} (h : Box w b) : w.cell? ⟨b, 5, none⟩ = some (.string ⟨#[]⟩) := by unfold World.cell?; rw [h]; rfl
theorem Box.c6 {w : World} {b : Nat} (h : Box w b) : w.cell? ⟨b, 6, none⟩ = some (.slice none 0 0) := by unfold World.cell?; rw [h]; rfl
theorem Box.fr {w : World} {b : Nat} (h : Box w b) : ∀ o, w.frozen? ⟨b, o, none⟩ = false := by intro o; unfold World.frozen?; rw [h]; simp
theorem Box.done {wr : World} {b : Nat} (h : Box wr b) (c0 c1 c2 c3 c4 c5 c6 : Value) :
    (wr.setCells b 0 [c0, c1, c2, c3, c4, c5, c6]).heap[b]? = some (.cells #[c0, c1, c2, c3, c4, c5, c6] 31 (0, 0)) := by
  have := setCells_heap b 31 (0, 0) [c0, c1, c2, c3, c4, c5, c6] 0 wr _ h (by show 0 + 7 ≤ 7; omega)
  simpa using this
theorem blk_at (W : World) (o : Obj) (k : Nat) (h : W.heap.size = k) : (W.alloc o).heap[k]? = some o := h ▸ blk_new W o
theorem results_row_tmp {P : Program} {fn : Func} {p u : Tmp} {ty : TypeId} (h : fn.results = #[.cell p ty, .tmp u]) (tmps : Array Value) (w : World) (g : Nat) (t : TypeId) (cs : Array Value) (fr : Nat × Nat) (d : TypeDesc)
    (hp : tmps.getD p undef = .pointer (some ⟨g, 0, none⟩)) (hg : w.heap[g]? = some (.cells cs t fr))
    (hu : P.underlying ty = some d) (hd : (match d with | .struct _ | .array _ _ => true | _ => false) = true) (hi : (P.info? ty).map (·.size) = some cs.size) :
    (results fn tmps).run P w = .ok (.tuple #[.agg cs, tmps.getD u undef]) w := by
  rw [results_cell_tmp h, hp]
  simp [asAddr, run_loadVar_row w g t ty cs fr d hg hu hd hi, Result.andThen]
theorem ta_truth (x : Value) (w : World) : Sem.run Try.prog (Instr.typeAssert (.iface 53 x) 20 53 true) w = .ok (.tuple #[x, .bool true]) w := by simp [Instr.typeAssert, go_sem]
theorem ta_number (x : Value) (w : World) : Sem.run Try.prog (Instr.typeAssert (.iface 61 x) 20 61 true) w = .ok (.tuple #[x, .bool true]) w := by simp [Instr.typeAssert, go_sem]
theorem ta_uid (x : Value) (w : World) : Sem.run Try.prog (Instr.typeAssert (.iface 70 x) 20 70 true) w = .ok (.tuple #[x, .bool true]) w := by simp [Instr.typeAssert, go_sem]
theorem ta_number_truth (x : Value) (w : World) : Sem.run Try.prog (Instr.typeAssert (.iface 61 x) 20 53 true) w = .ok (.tuple #[.bool false, .bool false]) w := by simp [Instr.typeAssert, go_sem]
theorem ta_truth_number (x : Value) (w : World) : Sem.run Try.prog (Instr.typeAssert (.iface 53 x) 20 61 true) w = .ok (.tuple #[.int .i64 0, .bool false]) w := by simp [Instr.typeAssert, go_sem]
set_option maxRecDepth 100000 in
set_option maxHeartbeats 4000000 in
theorem back_nu (n : Int) (w : World) : Calls Try.prog 17 #[.iface 61 (.int .i64 n)] w fun e w' => e = .returned (.agg #[.int .i64 2, .bool false, .int .i64 n, .string ⟨#[]⟩, .string ⟨#[]⟩, .string ⟨#[]⟩, .slice none 0 0]) ∧ Below w.heap.size w w' := by
  have h1 := ta_number_truth (.int .i64 n)
  have h2 := ta_number (.int .i64 n)
  go_enter Try.func17, Try.ntmps17
  go_wp2
  (try simp only [Exit.inBlock, Exit.then])
  refine bodyPost_ret (results_cell_row rfl _ _ w.heap.size 31 _ (0, 0) _ rfl (blk_new _ _) Try.underlying31 rfl (by kernel_rfl)) rfl ?_
  exact ⟨rfl, below_alloc (Below.refl _ _) _⟩
set_option maxRecDepth 100000 in
set_option maxHeartbeats 4000000 in
theorem back_tr (b : Bool) (w : World) : Calls Try.prog 17 #[.iface 53 (.bool b)] w fun e w' => e = .returned (.agg #[.int .i64 1, .bool b, .int .i64 0, .string ⟨#[]⟩, .string ⟨#[]⟩, .string ⟨#[]⟩, .slice none 0 0]) ∧ Below w.heap.size w w' := by
  have h1 := ta_truth (.bool b)
  go_enter Try.func17, Try.ntmps17
  go_wp2
  (try simp only [Exit.inBlock, Exit.then])
  refine bodyPost_ret (results_cell_row rfl _ _ w.heap.size 31 _ (0, 0) _ rfl (blk_new _ _) Try.underlying31 rfl (by kernel_rfl)) rfl ?_
  exact ⟨rfl, below_alloc (Below.refl _ _) _⟩
set_option maxRecDepth 100000 in
set_option maxHeartbeats 4000000 in
theorem told_err (x : Value) (n : Int) (hn : n ≠ 0) (w : World) : Calls Try.prog 18 #[x, .int .i64 n] w fun e w' => e = .returned (.tuple #[.agg #[.int .i64 0, .bool false, .int .i64 0, .string ⟨#[]⟩, .string ⟨#[]⟩, .string ⟨#[]⟩, .slice none 0 0], .int .i64 n]) ∧ Below w.heap.size w w' := by
  have h1 : (n != 0) = true := bne_iff_ne.mpr hn
  go_enter Try.func18, Try.ntmps18
  go_wp2
  (try simp only [Exit.inBlock, Exit.then])
  refine bodyPost_ret (results_row_tmp rfl _ _ w.heap.size 31 _ (0, 0) _ rfl (blk_new _ _) Try.underlying31 rfl (by kernel_rfl)) rfl ?_
  exact ⟨rfl, below_alloc (Below.refl _ _) _⟩
set_option maxRecDepth 100000 in
set_option maxHeartbeats 4000000 in
theorem of_tr (b : Bool) (w : World) : Calls Try.prog 19 #[.agg #[.int .i64 1, .bool b, .int .i64 0, .string ⟨#[]⟩, .string ⟨#[]⟩, .string ⟨#[]⟩, .slice none 0 0]] w fun e w' => e = .returned (.iface 53 (.bool b)) ∧ Below w.heap.size w w' := by
  go_enter Try.func19, Try.ntmps19
  go_wp2
  go_ret
  exact ⟨rfl, below_alloc (Below.refl _ _) _⟩
set_option maxRecDepth 100000 in
set_option maxHeartbeats 4000000 in
theorem of_nu (n : Int) (w : World) : Calls Try.prog 19 #[.agg #[.int .i64 2, .bool false, .int .i64 n, .string ⟨#[]⟩, .string ⟨#[]⟩, .string ⟨#[]⟩, .slice none 0 0]] w fun e w' => e = .returned (.iface 61 (.int .i64 n)) ∧ Below w.heap.size w w' := by
  go_enter Try.func19, Try.ntmps19
  go_wp2
  go_ret
  exact ⟨rfl, below_alloc (Below.refl _ _) _⟩
set_option maxRecDepth 100000 in
set_option maxHeartbeats 4000000 in
theorem of_ui (t i : ByteArray) (w : World) : Calls Try.prog 19 #[.agg #[.int .i64 4, .bool false, .int .i64 0, .string ⟨#[]⟩, .string t, .string i, .slice none 0 0]] w fun e w' => e = .returned (.iface 70 (.agg #[.string t, .string i])) ∧ Below w.heap.size w w' := by
  go_enter Try.func19, Try.ntmps19
  go_wp2
  go_ret
  exact ⟨rfl, below_alloc (Below.refl _ _) _⟩
end Go.Proofs.Ytakkmhcidbamjaa.GV
