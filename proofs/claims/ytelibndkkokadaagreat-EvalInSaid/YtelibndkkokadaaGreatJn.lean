import Derived.Test.YtelibndkkokadaaGreatGB0
import Derived.StillTailTactics
import Derived.Outline
import Derived.Laws.ResultCell
import Derived.Laws.Rows
import Derived.Test.YtelibndkkokadaaGreatSqz
import Derived.Deep.RegionWith
import Derived.Deep.CutRange
namespace Go.Proofs.YtelibndkkokadaaGreat.EV
open Go.RowKit Go.Proofs.YtelibndkkokadaaGreatW.PrintWords Go.Proofs.YtelibndkkokadaaGreatW.PrintLast Go.Proofs.YtelibndkkokadaaGreat.HandV Go.Proofs.YtelibndkkokadaaGreatW.PrintMore
open Go.Proofs.YtelibndkkokadaaGreat.GB
attribute [local go_sem] max2_int min2_int max_two min_two max_three min_three max_four min_four   -- for this text's walks alone
set_option linter.unusedVariables false
set_option linter.unusedSimpArgs false
-- IMPORT Derived.StillTailTactics
-- IMPORT Derived.Outline
-- IMPORT Derived.Laws.ResultCell
-- IMPORT Derived.Laws.Rows
theorem setCell_heap (w : World) (b o : Nat) (v : Value) (cur : List Value) (e : TypeId) (fz : Nat × Nat) (h : w.heap[b]? = some (.cells cur.toArray e fz)) :
    (w.setCell ⟨b, o, none⟩ v).heap[b]? = some (.cells (cur.set o v).toArray e fz) := by
  have hlt : b < w.heap.size := (Array.getElem?_eq_some_iff.1 h).1
  have hv : w.heap[b] = .cells cur.toArray e fz := (Array.getElem?_eq_some_iff.1 h).2
  unfold World.setCell
  rw [Array.getElem?_eq_getElem (by simpa using hlt), Array.getElem_modify]
  simp [hv]
theorem setCells_heap (b : Nat) (e : TypeId) (fz : Nat × Nat) : ∀ (vs : List Value) (o : Nat) (w : World) (cur : List Value), w.heap[b]? = some (.cells cur.toArray e fz) → o + vs.length ≤ cur.length →
    (w.setCells b o vs).heap[b]? = some (.cells (cur.take o ++ vs ++ cur.drop (o + vs.length)).toArray e fz)
  | [], o, w, cur, h, _ => by simpa [World.setCells] using h
  | v :: r, o, w, cur, h, hl => by
    have hl2 : o + (r.length + 1) ≤ cur.length := by simpa using hl
    have h1 := setCells_heap b e fz r (o + 1) _ _ (setCell_heap w b o v cur e fz h) (by rw [List.length_set]; omega)
    rw [World.setCells, h1]
    have e1 : (cur.set o v).take (o + 1) = cur.take o ++ [v] := by
      rw [List.take_succ_eq_append_getElem (by rw [List.length_set]; omega), List.take_set_of_le (Nat.le_refl o)]
      simp
    have e2 : (cur.set o v).drop (o + 1 + r.length) = cur.drop (o + (v :: r).length) := by
      rw [List.drop_set_of_lt (by omega), List.length_cons, Nat.add_assoc, Nat.add_comm 1]
    rw [e1, e2]
    simp
theorem below_cells {B : Nat} (b : Nat) (hb : B ≤ b) : ∀ (vs : List Value) (o : Nat) (w : World), Below B w (w.setCells b o vs)
  | [], _, w => Below.refl _ w
  | v :: vs, o, w => ((Below.refl B w).setCell (p := ⟨b, o, none⟩) hb v).trans (below_cells b hb vs (o + 1) _)
theorem lt_of_heap {w : World} {k : Nat} {o : Obj} (h : w.heap[k]? = some o) : k < w.heap.size := (Array.getElem?_eq_some_iff.1 h).1
theorem store_of {v : Value} (h : v.oneCell' = true) : ∀ (a : Addr) (m : Mode) (w : World), (store a v m).run Tryz.prog w = stored Tryz.prog w a v m := fun a m w => run_store Tryz.prog w a v m h
/-- The box of a result, not yet filled. -/
def Box (w : World) (b : Nat) : Prop := w.heap[b]? = some (.cells #[.int .i64 0, .bool false, .int .i64 0, .string ⟨#[]⟩, .string ⟨#[]⟩, .string ⟨#[]⟩, .slice none 0 0] 39 (0, 0))
theorem Box.mono {w w' : World} {b : Nat} (h : Box w b) (hb : Below w.heap.size w w') : Box w' b := (hb.block b (lt_of_heap h)).trans h
theorem Box.c0 {w : World} {b : Nat} (h : Box w b) : w.cell? ⟨b, 0, none⟩ = some (.int .i64 0) := by unfold World.cell?; rw [h]; rfl
theorem Box.c1 {w : World} {b : Nat} (h : Box w b) : w.cell? ⟨b, 1, none⟩ = some (.bool false) := by unfold World.cell?; rw [h]; rfl
theorem Box.c2 {w : World} {b : Nat} (h : Box w b) : w.cell? ⟨b, 2, none⟩ = some (.int .i64 0) := by unfold World.cell?; rw [h]; rfl
theorem Box.c3 {w : World} {b : Nat} (h : Box w b) : w.cell? ⟨b, 3, none⟩ = some (.string ⟨#[]⟩) := by unfold World.cell?; rw [h]; rfl
theorem Box.c4 {w : World} {b : Nat} (h : Box w b) : w.cell? ⟨b, 4, none⟩ = some (.string ⟨#[]⟩) := by unfold World.cell?; rw [h]; rfl
theorem Box.c5 {w : World} {b : Nat} (h : Box w b) : w.cell? ⟨b, 5, none⟩ = some (.string ⟨#[]⟩) := by unfold World.cell?; rw [h]; rfl
theorem Box.c6 {w : World} {b : Nat} (h : Box w b) : w.cell? ⟨b, 6, none⟩ = some (.slice none 0 0) := by unfold World.cell?; rw [h]; rfl
theorem Box.fr {w : World} {b : Nat} (h : Box w b) : ∀ o, w.frozen? ⟨b, o, none⟩ = false := by intro o; unfold World.frozen?; rw [h]; simp
theorem Box.done {wr : World} {b : Nat} (h : Box wr b) (c0 c1 c2 c3 c4 c5 c6 : Value) :
    (wr.setCells b 0 [c0, c1, c2, c3, c4, c5, c6]).heap[b]? = some (.cells #[c0, c1, c2, c3, c4, c5, c6] 39 (0, 0)) := by
  have := setCells_heap b 39 (0, 0) [c0, c1, c2, c3, c4, c5, c6] 0 wr _ h (by show 0 + 7 ≤ 7; omega)
  simpa using this
theorem results_row_tmp {P : Program} {fn : Func} {p u : Tmp} {ty : TypeId} (h : fn.results = #[.cell p ty, .tmp u]) (tmps : Array Value) (w : World) (g : Nat) (t : TypeId) (cs : Array Value) (fr : Nat × Nat) (d : TypeDesc)
    (hp : tmps.getD p undef = .pointer (some ⟨g, 0, none⟩)) (hg : w.heap[g]? = some (.cells cs t fr))
    (hu : P.underlying ty = some d) (hd : (match d with | .struct _ | .array _ _ => true | _ => false) = true) (hi : (P.info? ty).map (·.size) = some cs.size) :
    (results fn tmps).run P w = .ok (.tuple #[.agg cs, tmps.getD u undef]) w := by
  rw [results_cell_tmp h, hp]
  simp [asAddr, run_loadVar_row w g t ty cs fr d hg hu hd hi, Result.andThen]
theorem ta_truth (x : Value) (w : World) : Sem.run Tryz.prog (Instr.typeAssert (.iface 112 x) 20 112 true) w = .ok (.tuple #[x, .bool true]) w := by simp [Instr.typeAssert, go_sem]
theorem ta_number (x : Value) (w : World) : Sem.run Tryz.prog (Instr.typeAssert (.iface 120 x) 20 120 true) w = .ok (.tuple #[x, .bool true]) w := by simp [Instr.typeAssert, go_sem]
theorem ta_number_truth (x : Value) (w : World) : Sem.run Tryz.prog (Instr.typeAssert (.iface 112 x) 20 120 true) w = .ok (.tuple #[.int .i64 0, .bool false]) w := by simp [Instr.typeAssert, go_sem]
theorem ta_words (x : Value) (w : World) : Sem.run Tryz.prog (Instr.typeAssert (.iface 116 x) 20 116 true) w = .ok (.tuple #[x, .bool true]) w := by simp [Instr.typeAssert, go_sem]
theorem ta_uid (x : Value) (w : World) : Sem.run Tryz.prog (Instr.typeAssert (.iface 136 x) 20 136 true) w = .ok (.tuple #[x, .bool true]) w := by simp [Instr.typeAssert, go_sem]
theorem ta_uid_set (x : Value) (w : World) : Sem.run Tryz.prog (Instr.typeAssert (.iface 137 x) 20 136 true) w = .ok (.tuple #[.agg #[.string ⟨#[]⟩, .string ⟨#[]⟩], .bool false]) w := by simp [Instr.typeAssert, go_sem]
set_option maxRecDepth 100000 in
set_option maxHeartbeats 4000000 in
theorem back_tr (b : Bool) (w : World) : Calls Tryz.prog 45 #[.iface 112 (.bool b)] w fun e w' => e = .returned (.agg #[.int .i64 1, .bool b, .int .i64 0, .string ⟨#[]⟩, .string ⟨#[]⟩, .string ⟨#[]⟩, .slice none 0 0]) ∧ Below w.heap.size w w' := by
  have h1 := ta_truth (.bool b)
  go_enter Tryz.func45, Tryz.ntmps45
  go_wp2
  (try simp only [Exit.inBlock, Exit.then])
  refine bodyPost_ret (results_cell_row rfl _ _ w.heap.size 39 _ (0, 0) _ rfl (blk_new _ _) Tryz.underlying39 rfl (by kernel_rfl)) rfl ?_
  exact ⟨rfl, below_alloc (Below.refl _ _) _⟩
set_option maxRecDepth 100000 in
set_option maxHeartbeats 8000000 in
theorem of_1 (b : Bool) (n : Int) (s t i : ByteArray) (A : Option Addr) (l c : Nat) (w : World) : Calls Tryz.prog 47 #[.agg #[.int .i64 1, .bool b, .int .i64 n, .string s, .string t, .string i, .slice A l c]] w fun e w' => e = .returned (.iface 112 (.bool b)) ∧ Below w.heap.size w w' := by
  go_enter Tryz.func47, Tryz.ntmps47
  go_wp2
  go_ret
  exact ⟨rfl, below_alloc (Below.refl _ _) _⟩
set_option maxRecDepth 100000 in
set_option maxHeartbeats 8000000 in
theorem of_2 (b : Bool) (n : Int) (s t i : ByteArray) (A : Option Addr) (l c : Nat) (w : World) : Calls Tryz.prog 47 #[.agg #[.int .i64 2, .bool b, .int .i64 n, .string s, .string t, .string i, .slice A l c]] w fun e w' => e = .returned (.iface 120 (.int .i64 n)) ∧ Below w.heap.size w w' := by
  go_enter Tryz.func47, Tryz.ntmps47
  go_wp2
  go_ret
  exact ⟨rfl, below_alloc (Below.refl _ _) _⟩
set_option maxRecDepth 100000 in
set_option maxHeartbeats 8000000 in
theorem of_3 (b : Bool) (n : Int) (s t i : ByteArray) (A : Option Addr) (l c : Nat) (w : World) : Calls Tryz.prog 47 #[.agg #[.int .i64 3, .bool b, .int .i64 n, .string s, .string t, .string i, .slice A l c]] w fun e w' => e = .returned (.iface 116 (.string s)) ∧ Below w.heap.size w w' := by
  go_enter Tryz.func47, Tryz.ntmps47
  go_wp2
  go_ret
  exact ⟨rfl, below_alloc (Below.refl _ _) _⟩
set_option maxRecDepth 100000 in
set_option maxHeartbeats 8000000 in
theorem of_4 (b : Bool) (n : Int) (s t i : ByteArray) (A : Option Addr) (l c : Nat) (w : World) : Calls Tryz.prog 47 #[.agg #[.int .i64 4, .bool b, .int .i64 n, .string s, .string t, .string i, .slice A l c]] w fun e w' => e = .returned (.iface 136 (.agg #[.string t, .string i])) ∧ Below w.heap.size w w' := by
  go_enter Tryz.func47, Tryz.ntmps47
  go_wp2
  go_ret
  exact ⟨rfl, below_alloc (Below.refl _ _) _⟩
set_option maxRecDepth 100000 in
set_option maxHeartbeats 8000000 in
theorem of_5 (b : Bool) (n : Int) (s t i : ByteArray) (A : Option Addr) (l c : Nat) (w : World) : Calls Tryz.prog 47 #[.agg #[.int .i64 5, .bool b, .int .i64 n, .string s, .string t, .string i, .slice A l c]] w fun e w' => e = .returned (.iface 137 (.slice A l c)) ∧ Below w.heap.size w w' := by
  go_enter Tryz.func47, Tryz.ntmps47
  go_wp2
  go_ret
  exact ⟨rfl, below_alloc (Below.refl _ _) _⟩
set_option maxRecDepth 100000 in
set_option maxHeartbeats 8000000 in
theorem of_0 (k : Int) (h1 : k ≠ 1) (h2 : k ≠ 2) (h3 : k ≠ 3) (h4 : k ≠ 4) (h5 : k ≠ 5) (b : Bool) (n : Int) (s t i : ByteArray) (A : Option Addr) (l c : Nat) (w : World) : Calls Tryz.prog 47 #[.agg #[.int .i64 k, .bool b, .int .i64 n, .string s, .string t, .string i, .slice A l c]] w fun e w' => e = .returned .nilIface ∧ Below w.heap.size w w' := by
  have h1_0 : (k == 1) = false := beq_eq_false_iff_ne.mpr h1
  have h2_0 : (k == 2) = false := beq_eq_false_iff_ne.mpr h2
  have h3_0 : (k == 3) = false := beq_eq_false_iff_ne.mpr h3
  have h4_0 : (k == 4) = false := beq_eq_false_iff_ne.mpr h4
  have h5_0 : (k == 5) = false := beq_eq_false_iff_ne.mpr h5
  clear h1 h2 h3 h4 h5
  go_enter Tryz.func47, Tryz.ntmps47
  go_wp2
  go_ret
  exact ⟨rfl, below_alloc (Below.refl _ _) _⟩
/-- The kind of a value as it is reckoned with. -/
def ofV (k : Int) (b : Bool) (n : Int) (s t i : ByteArray) (A : Option Addr) (l c : Nat) : Value :=
  if k = 1 then .iface 112 (.bool b) else if k = 2 then .iface 120 (.int .i64 n) else if k = 3 then .iface 116 (.string s) else if k = 4 then .iface 136 (.agg #[.string t, .string i]) else if k = 5 then .iface 137 (.slice A l c) else .nilIface
theorem of_any (k : Int) (b : Bool) (n : Int) (s t i : ByteArray) (A : Option Addr) (l c : Nat) (w : World) : Calls Tryz.prog 47 #[.agg #[.int .i64 k, .bool b, .int .i64 n, .string s, .string t, .string i, .slice A l c]] w fun e w' => e = .returned (ofV k b n s t i A l c) ∧ Below w.heap.size w w' := by
  unfold ofV
  by_cases h1 : k = 1
  · subst h1; exact of_1 b n s t i A l c w
  by_cases h2 : k = 2
  · subst h2; exact of_2 b n s t i A l c w
  by_cases h3 : k = 3
  · subst h3; exact of_3 b n s t i A l c w
  by_cases h4 : k = 4
  · subst h4; exact of_4 b n s t i A l c w
  by_cases h5 : k = 5
  · subst h5; exact of_5 b n s t i A l c w
  rw [if_neg h1, if_neg h2, if_neg h3, if_neg h4, if_neg h5]
  exact of_0 k h1 h2 h3 h4 h5 b n s t i A l c w
/-- No number. -/
def NotNum (x : Value) : Prop := ∀ w, Sem.run Tryz.prog (Instr.typeAssert x 20 120 true) w = .ok (.tuple #[.int .i64 0, .bool false]) w
set_option maxRecDepth 100000 in
set_option maxHeartbeats 8000000 in
theorem numbers_type_b (op : Int) (n : Int) (y : Value) (hy : NotNum y) (w : World) : Calls Tryz.prog 55 #[.int .i64 op, .iface 120 (.int .i64 n), y] w fun e w' => e = .returned (.tuple #[.agg #[.int .i64 0, .bool false, .int .i64 0, .string ⟨#[]⟩, .string ⟨#[]⟩, .string ⟨#[]⟩, .slice none 0 0], .int .i64 16]) ∧ Below w.heap.size w w' := by
  have h2 : ∀ w, _ := ta_number (.int .i64 n)
  have h3 : ∀ w, _ := hy
  unfold NotNum at *
  go_enter Tryz.func55, Tryz.ntmps55
  go_wp2
  (try simp only [Exit.inBlock, Exit.then])
  refine bodyPost_ret (results_row_tmp rfl _ _ w.heap.size 39 _ (0, 0) _ rfl (blk_new _ _) Tryz.underlying39 rfl (by kernel_rfl)) rfl ?_
  exact ⟨rfl, below_alloc (Below.refl _ _) _⟩
end Go.Proofs.YtelibndkkokadaaGreat.EV
namespace Go.Proofs.YtelibndkkokadaaGreat.EV
open Go.RowKit Go.Proofs.YtelibndkkokadaaGreatW.PrintWords Go.Proofs.YtelibndkkokadaaGreatW.PrintLast Go.Proofs.YtelibndkkokadaaGreat.HandV Go.Proofs.YtelibndkkokadaaGreatW.PrintMore
open Go.Proofs.YtelibndkkokadaaGreat.GB
attribute [local go_sem] max2_int min2_int max_two min_two max_three min_three max_four min_four   -- for this text's walks alone
set_option linter.unusedVariables false
set_option linter.unusedSimpArgs false
-- IMPORT .EV1
-- IMPORT .Sqz
-- IMPORT Derived.Deep.RegionWith
-- IMPORT Derived.Deep.CutRange
/-- A value without a row. -/
structure Fl where
  k : Int
  b : Bool
  m : Int
  s : ByteArray
  t : ByteArray
  i : ByteArray
abbrev zO : Obj := .cells #[.int .i64 0, .bool false, .int .i64 0, .string ⟨#[]⟩, .string ⟨#[]⟩, .string ⟨#[]⟩, .slice none 0 0] 39 (0, 0)
theorem bn2 (w : World) (o1 o2 : Obj) : ((w.alloc o1).alloc o2).heap[w.heap.size + 1]? = some o2 := by
  have h := blk_new (w.alloc o1) o2
  have hs : (w.alloc o1).heap.size = w.heap.size + 1 := by simp
  rw [hs] at h
  exact h
theorem bn3 (w : World) (o1 o2 o3 : Obj) : (((w.alloc o1).alloc o2).alloc o3).heap[w.heap.size + 2]? = some o3 := by
  have h := bn2 (w.alloc o1) o2 o3
  have hs : (w.alloc o1).heap.size = w.heap.size + 1 := by simp
  rw [hs] at h
  exact h
theorem cells7 {W : World} {g : Nat} {t : TypeId} {a0 a1 a2 a3 a4 a5 a6 : Value} (h : W.heap[g]? = some (.cells #[a0, a1, a2, a3, a4, a5, a6] t (0, 0))) : W.cell? ⟨g, 0, none⟩ = some a0 ∧ W.cell? ⟨g, 1, none⟩ = some a1 ∧ W.cell? ⟨g, 2, none⟩ = some a2 ∧ W.cell? ⟨g, 3, none⟩ = some a3 ∧ W.cell? ⟨g, 4, none⟩ = some a4 ∧ W.cell? ⟨g, 5, none⟩ = some a5 ∧ W.cell? ⟨g, 6, none⟩ = some a6 :=
  ⟨(blk_cell h 0).trans rfl, (blk_cell h 1).trans rfl, (blk_cell h 2).trans rfl, (blk_cell h 3).trans rfl, (blk_cell h 4).trans rfl, (blk_cell h 5).trans rfl, (blk_cell h 6).trans rfl⟩
theorem froz7 {W : World} {g : Nat} {t : TypeId} {cs : Array Value} (h : W.heap[g]? = some (.cells cs t (0, 0))) : W.frozen? ⟨g, 0, none⟩ = false ∧ W.frozen? ⟨g, 1, none⟩ = false ∧ W.frozen? ⟨g, 2, none⟩ = false ∧ W.frozen? ⟨g, 3, none⟩ = false ∧ W.frozen? ⟨g, 4, none⟩ = false ∧ W.frozen? ⟨g, 5, none⟩ = false ∧ W.frozen? ⟨g, 6, none⟩ = false :=
  ⟨blk_frozen h 0, blk_frozen h 1, blk_frozen h 2, blk_frozen h 3, blk_frozen h 4, blk_frozen h 5, blk_frozen h 6⟩
abbrev set7 (W : World) (g : Nat) (v0 v1 v2 v3 v4 v5 v6 : Value) : World := ((((((W.setCell ⟨g, 0, none⟩ v0).setCell ⟨g, 1, none⟩ v1).setCell ⟨g, 2, none⟩ v2).setCell ⟨g, 3, none⟩ v3).setCell ⟨g, 4, none⟩ v4).setCell ⟨g, 5, none⟩ v5).setCell ⟨g, 6, none⟩ v6
theorem set7_blk {W : World} {g : Nat} {t : TypeId} {a0 a1 a2 a3 a4 a5 a6 : Value} (h : W.heap[g]? = some (.cells #[a0, a1, a2, a3, a4, a5, a6] t (0, 0))) (v0 v1 v2 v3 v4 v5 v6 : Value) : (set7 W g v0 v1 v2 v3 v4 v5 v6).heap[g]? = some (.cells #[v0, v1, v2, v3, v4, v5, v6] t (0, 0)) := by
  replace h := blk_put (cs := #[a0, a1, a2, a3, a4, a5, a6]) (cs' := #[v0, a1, a2, a3, a4, a5, a6]) h 0 v0 rfl
  replace h := blk_put (cs := #[v0, a1, a2, a3, a4, a5, a6]) (cs' := #[v0, v1, a2, a3, a4, a5, a6]) h 1 v1 rfl
  replace h := blk_put (cs := #[v0, v1, a2, a3, a4, a5, a6]) (cs' := #[v0, v1, v2, a3, a4, a5, a6]) h 2 v2 rfl
  replace h := blk_put (cs := #[v0, v1, v2, a3, a4, a5, a6]) (cs' := #[v0, v1, v2, v3, a4, a5, a6]) h 3 v3 rfl
  replace h := blk_put (cs := #[v0, v1, v2, v3, a4, a5, a6]) (cs' := #[v0, v1, v2, v3, v4, a5, a6]) h 4 v4 rfl
  replace h := blk_put (cs := #[v0, v1, v2, v3, v4, a5, a6]) (cs' := #[v0, v1, v2, v3, v4, v5, a6]) h 5 v5 rfl
  replace h := blk_put (cs := #[v0, v1, v2, v3, v4, v5, a6]) (cs' := #[v0, v1, v2, v3, v4, v5, v6]) h 6 v6 rfl
  exact h
theorem set7_far {W : World} {g b : Nat} {t : TypeId} {cs : Array Value} (h : W.heap[b]? = some (.cells cs t (0, 0))) (hne : b ≠ g) (v0 v1 v2 v3 v4 v5 v6 : Value) : (set7 W g v0 v1 v2 v3 v4 v5 v6).heap[b]? = some (.cells cs t (0, 0)) :=
  blk_far (blk_far (blk_far (blk_far (blk_far (blk_far (blk_far h (p := ⟨g, 0, none⟩) hne _) (p := ⟨g, 1, none⟩) hne _) (p := ⟨g, 2, none⟩) hne _) (p := ⟨g, 3, none⟩) hne _) (p := ⟨g, 4, none⟩) hne _) (p := ⟨g, 5, none⟩) hne _) (p := ⟨g, 6, none⟩) hne _
theorem set7_below {B : Nat} {w W : World} {g : Nat} (h : Below B w W) (hg : B ≤ g) (v0 v1 v2 v3 v4 v5 v6 : Value) : Below B w (set7 W g v0 v1 v2 v3 v4 v5 v6) :=
  ((((((h.setCell (p := ⟨g, 0, none⟩) hg _).setCell (p := ⟨g, 1, none⟩) hg _).setCell (p := ⟨g, 2, none⟩) hg _).setCell (p := ⟨g, 3, none⟩) hg _).setCell (p := ⟨g, 4, none⟩) hg _).setCell (p := ⟨g, 5, none⟩) hg _).setCell (p := ⟨g, 6, none⟩) hg _
/-- A flat value and an error came back. -/
def GivF (W : World) (r : Fl) (er : Int) (e : Ending) (w' : World) : Prop := e = .returned (.tuple #[.agg #[.int .i64 r.k, .bool r.b, .int .i64 r.m, .string r.s, .string r.t, .string r.i, .slice none 0 0], .int .i64 er]) ∧ Below W.heap.size W w'
/-- What a tree comes to in a world and in all later ones. -/
def Says (wv x : Value) (r : Fl) (er : Int) (W : World) : Prop := ∀ W', Below W.heap.size W W' → Calls Tryz.prog 18 #[wv, x] W' (GivF W' r er)
theorem Says.step {wv x : Value} {r : Fl} {er : Int} {W W' : World} (h : Says wv x r er W) (hb : Below W.heap.size W W') : Says wv x r er W' := fun W2 h2 => h W2 (below_step hb h2)
/-- What an operation on two flat values comes to. -/
def DSays (wv : Value) (op : Int) (a b r : Fl) (er : Int) (W : World) : Prop := ∀ W', Below W.heap.size W W' → Calls Tryz.prog 35 #[wv, .int .i64 op, .agg #[.int .i64 a.k, .bool a.b, .int .i64 a.m, .string a.s, .string a.t, .string a.i, .slice none 0 0], .agg #[.int .i64 b.k, .bool b.b, .int .i64 b.m, .string b.s, .string b.t, .string b.i, .slice none 0 0]] W' (GivF W' r er)
theorem DSays.step {wv : Value} {op : Int} {a b r : Fl} {er : Int} {W W' : World} (h : DSays wv op a b r er W) (hb : Below W.heap.size W W') : DSays wv op a b r er W' := fun W2 h2 => h W2 (below_step hb h2)
set_option maxRecDepth 100000 in
set_option maxHeartbeats 16000000 in
theorem leaf_bool (A : Option Addr) (n c : Nat) (p0 p1 p2 p3 p4 p5 : ByteArray) (b : Bool) (m : Int) (s t i : ByteArray) (K : Value) (w : World) : Calls Tryz.prog 31 #[.agg #[.slice A n c, .string p0, .string p1, .string p2, .string p3, .string p4, .string p5], .agg #[.int .i64 1, .bool b, .int .i64 m, .string s, .string t, .string i, K]] w fun e w' => e = .returned (.agg #[.int .i64 1, .bool b, .int .i64 0, .string ⟨#[]⟩, .string ⟨#[]⟩, .string ⟨#[]⟩, .slice none 0 0]) ∧ Below w.heap.size w w' := by
  go_enter Tryz.func31, Tryz.ntmps31
  go_wp2
  (try simp only [Exit.inBlock, Exit.then])
  refine bodyPost_ret (results_cell_row rfl _ _ (w.heap.size + 2) 39 _ (0, 0) _ rfl (bn3 _ _ _ _) Tryz.underlying39 rfl (by kernel_rfl)) rfl ?_
  exact ⟨rfl, below_alloc (below_alloc (below_alloc (Below.refl _ _) _) _) _⟩
set_option maxRecDepth 100000 in
set_option maxHeartbeats 16000000 in
theorem leaf_long (A : Option Addr) (n c : Nat) (p0 p1 p2 p3 p4 p5 : ByteArray) (b : Bool) (m : Int) (s t i : ByteArray) (K : Value) (w : World) : Calls Tryz.prog 31 #[.agg #[.slice A n c, .string p0, .string p1, .string p2, .string p3, .string p4, .string p5], .agg #[.int .i64 2, .bool b, .int .i64 m, .string s, .string t, .string i, K]] w fun e w' => e = .returned (.agg #[.int .i64 2, .bool false, .int .i64 m, .string ⟨#[]⟩, .string ⟨#[]⟩, .string ⟨#[]⟩, .slice none 0 0]) ∧ Below w.heap.size w w' := by
  go_enter Tryz.func31, Tryz.ntmps31
  go_wp2
  (try simp only [Exit.inBlock, Exit.then])
  refine bodyPost_ret (results_cell_row rfl _ _ (w.heap.size + 2) 39 _ (0, 0) _ rfl (bn3 _ _ _ _) Tryz.underlying39 rfl (by kernel_rfl)) rfl ?_
  exact ⟨rfl, below_alloc (below_alloc (below_alloc (Below.refl _ _) _) _) _⟩
set_option maxRecDepth 100000 in
set_option maxHeartbeats 16000000 in
theorem leaf_uid (A : Option Addr) (n c : Nat) (p0 p1 p2 p3 p4 p5 : ByteArray) (b : Bool) (m : Int) (s t i : ByteArray) (K : Value) (w : World) : Calls Tryz.prog 31 #[.agg #[.slice A n c, .string p0, .string p1, .string p2, .string p3, .string p4, .string p5], .agg #[.int .i64 4, .bool b, .int .i64 m, .string s, .string t, .string i, K]] w fun e w' => e = .returned (.agg #[.int .i64 4, .bool false, .int .i64 0, .string ⟨#[]⟩, .string t, .string i, .slice none 0 0]) ∧ Below w.heap.size w w' := by
  go_enter Tryz.func31, Tryz.ntmps31
  go_wp2
  (try simp only [Exit.inBlock, Exit.then])
  refine bodyPost_ret (results_cell_row rfl _ _ (w.heap.size + 2) 39 _ (0, 0) _ rfl (bn3 _ _ _ _) Tryz.underlying39 rfl (by kernel_rfl)) rfl ?_
  exact ⟨rfl, below_alloc (below_alloc (below_alloc (Below.refl _ _) _) _) _⟩
/-- The boxes of a call of expr. -/
structure XB (w : World) (wc ec : Array Value) (W : World) : Prop where
  b0 : W.heap[w.heap.size]? = some (.cells wc 70 (0, 0))
  b1 : W.heap[w.heap.size + 1]? = some (.cells ec 36 (0, 0))
  b2 : W.heap[w.heap.size + 2]? = some zO
  be : Below w.heap.size w W
theorem XB.step {w W W' : World} {wc ec : Array Value} (h : XB w wc ec W) (hb : Below W.heap.size W W') : XB w wc ec W' := ⟨blk_below h.b0 hb, blk_below h.b1 hb, blk_below h.b2 hb, below_step h.be hb⟩
theorem XB.new (w : World) (wc ec : Array Value) : XB w wc ec (((w.alloc (.cells wc 70 (0, 0))).alloc (.cells ec 36 (0, 0))).alloc zO) :=
  ⟨blk_alloc (blk_alloc (blk_new _ _) _) _, blk_alloc (bn2 _ _ _) _, bn3 _ _ _ _, below_alloc (below_alloc (below_alloc (Below.refl _ _) _) _) _⟩
set_option maxRecDepth 100000 in
set_option maxHeartbeats 16000000 in
theorem expr_leaf (A : Option Addr) (n c : Nat) (p0 p1 p2 p3 p4 p5 : ByteArray) (o : Int) (b : Bool) (m : Int) (s t i : ByteArray) (K : Value) (r : Fl) (ho : o < 6) (hL : ∀ W, Calls Tryz.prog 31 #[.agg #[.slice A n c, .string p0, .string p1, .string p2, .string p3, .string p4, .string p5], .agg #[.int .i64 o, .bool b, .int .i64 m, .string s, .string t, .string i, K]] W fun e w' => e = .returned (.agg #[.int .i64 r.k, .bool r.b, .int .i64 r.m, .string r.s, .string r.t, .string r.i, .slice none 0 0]) ∧ Below W.heap.size W w') (W0 : World) : Says (.agg #[.slice A n c, .string p0, .string p1, .string p2, .string p3, .string p4, .string p5]) (.agg #[.int .i64 o, .bool b, .int .i64 m, .string s, .string t, .string i, K]) r 0 W0 := by
  intro w _
  have h1 : decide (o < 6) = true := decide_eq_true ho
  have HL := Aside0.mk hL
  have HX := Aside0.mk (XB.new w #[.slice A n c, .string p0, .string p1, .string p2, .string p3, .string p4, .string p5] #[.int .i64 o, .bool b, .int .i64 m, .string s, .string t, .string i, K])
  clear hL ho
  unfold GivF
  go_enter Tryz.func18, Tryz.ntmps18
  go_wp2_with (go_at_call 31; refine (HL.out _).mono ?_; rintro e w1 ⟨rfl, hb⟩; have HX1 := Aside0.mk (HX.out.step hb); clear hb; obtain ⟨q0, q1, q2, q3, q4, q5, q6⟩ := cells7 HX1.out.b2; obtain ⟨f0, f1, f2, f3, f4, f5, f6⟩ := froz7 HX1.out.b2)
  (try simp only [Exit.inBlock, Exit.then])
  refine bodyPost_ret (results_row_tmp rfl _ _ (w.heap.size + 2) 39 _ (0, 0) _ rfl (set7_blk HX1.out.b2 _ _ _ _ _ _ _) Tryz.underlying39 rfl (by kernel_rfl)) rfl ?_
  exact ⟨rfl, set7_below HX1.out.be (by omega) _ _ _ _ _ _ _⟩
end Go.Proofs.YtelibndkkokadaaGreat.EV
namespace Go.Proofs.YtelibndkkokadaaGreat.EV
open Go.RowKit Go.Proofs.YtelibndkkokadaaGreatW.PrintWords Go.Proofs.YtelibndkkokadaaGreatW.PrintLast Go.Proofs.YtelibndkkokadaaGreat.HandV Go.Proofs.YtelibndkkokadaaGreatW.PrintMore
open Go.Proofs.YtelibndkkokadaaGreat.GB
attribute [local go_sem] max2_int min2_int max_two min_two max_three min_three max_four min_four   -- for this text's walks alone
set_option linter.unusedVariables false
set_option linter.unusedSimpArgs false
-- IMPORT .EV3
-- IMPORT .Sqz
-- IMPORT Derived.Deep.RegionWith
-- IMPORT Derived.Deep.CutRange
/-- The boxes of a call of expr, and the kids of its tree. -/
structure XK (w : World) (wc ec : Array Value) (g : Nat) (kk : Array Value) (W : World) : Prop where
  b0 : W.heap[w.heap.size]? = some (.cells wc 70 (0, 0))
  b1 : W.heap[w.heap.size + 1]? = some (.cells ec 36 (0, 0))
  b2 : W.heap[w.heap.size + 2]? = some zO
  bk : W.heap[g]? = some (.cells kk 36 (0, 0))
  be : Below w.heap.size w W
  lt : g < w.heap.size
theorem XK.step {w W W' : World} {wc ec kk : Array Value} {g : Nat} (h : XK w wc ec g kk W) (hb : Below W.heap.size W W') : XK w wc ec g kk W' := ⟨blk_below h.b0 hb, blk_below h.b1 hb, blk_below h.b2 hb, blk_below h.bk hb, below_step h.be hb, h.lt⟩
theorem XK.new (w : World) (wc ec kk : Array Value) (g : Nat) (hk : w.heap[g]? = some (.cells kk 36 (0, 0))) : XK w wc ec g kk (((w.alloc (.cells wc 70 (0, 0))).alloc (.cells ec 36 (0, 0))).alloc zO) :=
  ⟨blk_alloc (blk_alloc (blk_new _ _) _) _, blk_alloc (bn2 _ _ _) _, bn3 _ _ _ _, blk_alloc (blk_alloc (blk_alloc hk _) _) _, below_alloc (below_alloc (below_alloc (Below.refl _ _) _) _) _, blk_lt hk⟩
theorem XK.put {w W : World} {wc ec kk : Array Value} {g q : Nat} (h : XK w wc ec g kk W) (hq : w.heap.size + 3 ≤ q) (v0 v1 v2 v3 v4 v5 v6 : Value) : XK w wc ec g kk (set7 W q v0 v1 v2 v3 v4 v5 v6) :=
  ⟨set7_far h.b0 (by omega) _ _ _ _ _ _ _, set7_far h.b1 (by omega) _ _ _ _ _ _ _, set7_far h.b2 (by omega) _ _ _ _ _ _ _, set7_far h.bk (by have := h.lt; omega) _ _ _ _ _ _ _, set7_below h.be (by omega) _ _ _ _ _ _ _, h.lt⟩
theorem XK.le {w W : World} {wc ec kk : Array Value} {g : Nat} (h : XK w wc ec g kk W) : w.heap.size + 3 ≤ W.heap.size := by have := blk_lt h.b2; omega
/-- And one kid's value in its box. -/
structure XL (w : World) (wc ec : Array Value) (g : Nat) (kk : Array Value) (gx : Nat) (cx : Array Value) (W : World) : Prop extends XK w wc ec g kk W where
  bx : W.heap[gx]? = some (.cells cx 39 (0, 0))
  lx : w.heap.size + 3 ≤ gx
theorem XL.step {w W W' : World} {wc ec kk cx : Array Value} {g gx : Nat} (h : XL w wc ec g kk gx cx W) (hb : Below W.heap.size W W') : XL w wc ec g kk gx cx W' := ⟨h.toXK.step hb, blk_below h.bx hb, h.lx⟩
theorem XL.put {w W : World} {wc ec kk cx : Array Value} {g gx q : Nat} (h : XL w wc ec g kk gx cx W) (hq : w.heap.size + 3 ≤ q) (hne : gx ≠ q) (v0 v1 v2 v3 v4 v5 v6 : Value) : XL w wc ec g kk gx cx (set7 W q v0 v1 v2 v3 v4 v5 v6) :=
  ⟨h.toXK.put hq _ _ _ _ _ _ _, set7_far h.bx hne _ _ _ _ _ _ _, h.lx⟩
def rv9_T : Bool × List (List Nat × List Nat) := (true, [([], []), ([], []), ([1], [1]), ([2], [2]), ([3], [3]), ([0, 4], [0, 4]), ([5], [5]), ([6], [6]), ([6], [6]), ([], []), ([9, 7, 5, 0, 1, 2, 3, 4, 5, 6, 7, 9], [7, 9]), ([8, 10, 0, 1, 2, 3, 4, 5, 6, 7, 8, 9, 10], [8])])
def rv9_B : List Nat := [0, 0, 2, 6, 14, 31, 63, 127, 127, 0, 767, 2047]
theorem rv9_tab : rtab .any (opsOf Tryz.f18 9) = rv9_T := by kernel_rfl
theorem rv9_bits : waitsOk rv9_T.2 rv9_B = true := by kernel_rfl
def rv14_T : Bool × List (List Nat × List Nat) := (true, [([], []), ([], []), ([1], [1]), ([2], [2]), ([3], [3]), ([0, 4], [0, 4]), ([5], [5]), ([6], [6]), ([6], [6]), ([], []), ([9, 7, 5, 0, 1, 2, 3, 4, 5, 6, 7, 9], [7, 9]), ([8, 10, 0, 1, 2, 3, 4, 5, 6, 7, 8, 9, 10], [8])])
def rv14_B : List Nat := [0, 0, 2, 6, 14, 31, 63, 127, 127, 0, 767, 2047]
theorem rv14_tab : rtab .any (opsOf Tryz.f18 14) = rv14_T := by kernel_rfl
theorem rv14_bits : waitsOk rv14_T.2 rv14_B = true := by kernel_rfl
set_option maxRecDepth 100000 in
set_option maxHeartbeats 16000000 in
theorem expr_two (A : Option Addr) (n c : Nat) (p0 p1 p2 p3 p4 p5 : ByteArray) (o : Int) (b : Bool) (m : Int) (s t i : ByteArray) (g kc : Nat) (o0 : Int) (b0 : Bool) (m0 : Int) (s0 t0 i0 : ByteArray) (K0 : Value) (o1 : Int) (b1 : Bool) (m1 : Int) (s1 t1 i1 : ByteArray) (K1 : Value) (x y r : Fl) (er : Int) (ho : 6 < o) (ho2 : o < 23) (W0 : World) (hk : W0.heap[g]? = some (.cells #[.int .i64 o0, .bool b0, .int .i64 m0, .string s0, .string t0, .string i0, K0, .int .i64 o1, .bool b1, .int .i64 m1, .string s1, .string t1, .string i1, K1] 36 (0, 0)))
    (h0 : Says (.agg #[.slice A n c, .string p0, .string p1, .string p2, .string p3, .string p4, .string p5]) (.agg #[.int .i64 o0, .bool b0, .int .i64 m0, .string s0, .string t0, .string i0, K0]) x 0 W0) (h1 : Says (.agg #[.slice A n c, .string p0, .string p1, .string p2, .string p3, .string p4, .string p5]) (.agg #[.int .i64 o1, .bool b1, .int .i64 m1, .string s1, .string t1, .string i1, K1]) y 0 W0) (hD : DSays (.agg #[.slice A n c, .string p0, .string p1, .string p2, .string p3, .string p4, .string p5]) o x y r er W0) : Says (.agg #[.slice A n c, .string p0, .string p1, .string p2, .string p3, .string p4, .string p5]) (.agg #[.int .i64 o, .bool b, .int .i64 m, .string s, .string t, .string i, .slice (some ⟨g, 0, none⟩) 2 kc]) r er W0 := by
  intro w hw
  have c1 : decide (o < 6) = false := decide_eq_false (by omega)
  have c2 : (o == 6) = false := beq_eq_false_iff_ne.mpr (by omega)
  have c3 : decide (23 ≤ o) = false := decide_eq_false (by omega)
  have c4 : (o == 25) = false := beq_eq_false_iff_ne.mpr (by omega)
  have HH0 := Aside0.mk (h0.step hw)
  have HH1 := Aside0.mk (h1.step hw)
  have HHD := Aside0.mk (hD.step hw)
  have HX : Aside0 (XK w #[.slice A n c, .string p0, .string p1, .string p2, .string p3, .string p4, .string p5] #[.int .i64 o, .bool b, .int .i64 m, .string s, .string t, .string i, .slice (some ⟨g, 0, none⟩) 2 kc] g #[.int .i64 o0, .bool b0, .int .i64 m0, .string s0, .string t0, .string i0, K0, .int .i64 o1, .bool b1, .int .i64 m1, .string s1, .string t1, .string i1, K1] _) := ⟨XK.new w _ _ _ g (blk_below hk hw)⟩
  have HS0 : Aside0 (∀ W, XK w #[.slice A n c, .string p0, .string p1, .string p2, .string p3, .string p4, .string p5] #[.int .i64 o, .bool b, .int .i64 m, .string s, .string t, .string i, .slice (some ⟨g, 0, none⟩) 2 kc] g #[.int .i64 o0, .bool b0, .int .i64 m0, .string s0, .string t0, .string i0, K0, .int .i64 o1, .bool b1, .int .i64 m1, .string s1, .string t1, .string i1, K1] W → W.cell? ⟨w.heap.size, 0, none⟩ = some (.slice A n c) ∧ W.cell? ⟨w.heap.size, 1, none⟩ = some (.string p0) ∧ W.cell? ⟨w.heap.size, 2, none⟩ = some (.string p1) ∧ W.cell? ⟨w.heap.size, 3, none⟩ = some (.string p2) ∧ W.cell? ⟨w.heap.size, 4, none⟩ = some (.string p3) ∧ W.cell? ⟨w.heap.size, 5, none⟩ = some (.string p4) ∧ W.cell? ⟨w.heap.size, 6, none⟩ = some (.string p5) ∧ W.cell? ⟨w.heap.size + 1, 6, none⟩ = some (.slice (some ⟨g, 0, none⟩) 2 kc) ∧ W.cell? ⟨g, 0, none⟩ = some (.int .i64 o0) ∧ W.cell? ⟨g, 1, none⟩ = some (.bool b0) ∧ W.cell? ⟨g, 2, none⟩ = some (.int .i64 m0) ∧ W.cell? ⟨g, 3, none⟩ = some (.string s0) ∧ W.cell? ⟨g, 4, none⟩ = some (.string t0) ∧ W.cell? ⟨g, 5, none⟩ = some (.string i0) ∧ W.cell? ⟨g, 6, none⟩ = some (K0)) := ⟨fun W h => ⟨(blk_cell h.b0 0).trans rfl, (blk_cell h.b0 1).trans rfl, (blk_cell h.b0 2).trans rfl, (blk_cell h.b0 3).trans rfl, (blk_cell h.b0 4).trans rfl, (blk_cell h.b0 5).trans rfl, (blk_cell h.b0 6).trans rfl, (blk_cell h.b1 6).trans rfl, (blk_cell h.bk 0).trans rfl, (blk_cell h.bk 1).trans rfl, (blk_cell h.bk 2).trans rfl, (blk_cell h.bk 3).trans rfl, (blk_cell h.bk 4).trans rfl, (blk_cell h.bk 5).trans rfl, (blk_cell h.bk 6).trans rfl⟩⟩
  have HS1 : Aside0 (∀ gx W, XL w #[.slice A n c, .string p0, .string p1, .string p2, .string p3, .string p4, .string p5] #[.int .i64 o, .bool b, .int .i64 m, .string s, .string t, .string i, .slice (some ⟨g, 0, none⟩) 2 kc] g #[.int .i64 o0, .bool b0, .int .i64 m0, .string s0, .string t0, .string i0, K0, .int .i64 o1, .bool b1, .int .i64 m1, .string s1, .string t1, .string i1, K1] gx #[.int .i64 x.k, .bool x.b, .int .i64 x.m, .string x.s, .string x.t, .string x.i, .slice none 0 0] W → W.cell? ⟨w.heap.size, 0, none⟩ = some (.slice A n c) ∧ W.cell? ⟨w.heap.size, 1, none⟩ = some (.string p0) ∧ W.cell? ⟨w.heap.size, 2, none⟩ = some (.string p1) ∧ W.cell? ⟨w.heap.size, 3, none⟩ = some (.string p2) ∧ W.cell? ⟨w.heap.size, 4, none⟩ = some (.string p3) ∧ W.cell? ⟨w.heap.size, 5, none⟩ = some (.string p4) ∧ W.cell? ⟨w.heap.size, 6, none⟩ = some (.string p5) ∧ W.cell? ⟨w.heap.size + 1, 6, none⟩ = some (.slice (some ⟨g, 0, none⟩) 2 kc) ∧ W.cell? ⟨g, 7, none⟩ = some (.int .i64 o1) ∧ W.cell? ⟨g, 8, none⟩ = some (.bool b1) ∧ W.cell? ⟨g, 9, none⟩ = some (.int .i64 m1) ∧ W.cell? ⟨g, 10, none⟩ = some (.string s1) ∧ W.cell? ⟨g, 11, none⟩ = some (.string t1) ∧ W.cell? ⟨g, 12, none⟩ = some (.string i1) ∧ W.cell? ⟨g, 13, none⟩ = some (K1)) := ⟨fun _ W h => ⟨(blk_cell h.b0 0).trans rfl, (blk_cell h.b0 1).trans rfl, (blk_cell h.b0 2).trans rfl, (blk_cell h.b0 3).trans rfl, (blk_cell h.b0 4).trans rfl, (blk_cell h.b0 5).trans rfl, (blk_cell h.b0 6).trans rfl, (blk_cell h.b1 6).trans rfl, (blk_cell h.bk 7).trans rfl, (blk_cell h.bk 8).trans rfl, (blk_cell h.bk 9).trans rfl, (blk_cell h.bk 10).trans rfl, (blk_cell h.bk 11).trans rfl, (blk_cell h.bk 12).trans rfl, (blk_cell h.bk 13).trans rfl⟩⟩
  clear h0 h1 hD hk hw ho ho2
  unfold GivF
  go_enter Tryz.func18, Tryz.ntmps18
  go_upto_region 9 with (fail)
  generalize ((w.alloc (.cells #[.slice A n c, .string p0, .string p1, .string p2, .string p3, .string p4, .string p5] 70)).alloc (.cells #[.int .i64 o, .bool b, .int .i64 m, .string s, .string t, .string i, .slice (some ⟨g, 0, none⟩) 2 kc] 36)).alloc (.cells #[.int .i64 0, .bool false, .int .i64 0, .string ⟨#[]⟩, .string ⟨#[]⟩, .string ⟨#[]⟩, .slice none 0 0] 39) = w3 at HX ⊢
  replace HX : Aside0 (XK w #[.slice A n c, .string p0, .string p1, .string p2, .string p3, .string p4, .string p5] #[.int .i64 o, .bool b, .int .i64 m, .string s, .string t, .string i, .slice (some ⟨g, 0, none⟩) 2 kc] g #[.int .i64 o0, .bool b0, .int .i64 m0, .string s0, .string t0, .string i0, K0, .int .i64 o1, .bool b1, .int .i64 m1, .string s1, .string t1, .string i1, K1] w3.drew) := ⟨HX.out.step (below_drew1 (Below.refl _ _))⟩
  refine start_ (n := 12) (S := fun W => W.cell? ⟨w.heap.size, 0, none⟩ = some (.slice A n c) ∧ W.cell? ⟨w.heap.size, 1, none⟩ = some (.string p0) ∧ W.cell? ⟨w.heap.size, 2, none⟩ = some (.string p1) ∧ W.cell? ⟨w.heap.size, 3, none⟩ = some (.string p2) ∧ W.cell? ⟨w.heap.size, 4, none⟩ = some (.string p3) ∧ W.cell? ⟨w.heap.size, 5, none⟩ = some (.string p4) ∧ W.cell? ⟨w.heap.size, 6, none⟩ = some (.string p5) ∧ W.cell? ⟨w.heap.size + 1, 6, none⟩ = some (.slice (some ⟨g, 0, none⟩) 2 kc) ∧ W.cell? ⟨g, 0, none⟩ = some (.int .i64 o0) ∧ W.cell? ⟨g, 1, none⟩ = some (.bool b0) ∧ W.cell? ⟨g, 2, none⟩ = some (.int .i64 m0) ∧ W.cell? ⟨g, 3, none⟩ = some (.string s0) ∧ W.cell? ⟨g, 4, none⟩ = some (.string t0) ∧ W.cell? ⟨g, 5, none⟩ = some (.string i0) ∧ W.cell? ⟨g, 6, none⟩ = some (K0)) (ds := []) #[false, false, false, false, false, false, false, false, false, false, false, false] (by kernel_rfl) rfl rfl (HS0.out _ HX.out) (fun hHeld => ?_)
  refine with_tabW rv9_tab rv9_bits (fun HT_ HW_ => ?_)
  generalize w3.drew = wd at HX hHeld ⊢
  refine pS_ 1 65 (fa 12 2) HT_ ?_
  refine tS_ 0 64 (fa 12 3) HT_ HW_ hHeld ?_
  refine tS_ 2 66 (fa 12 7) HT_ HW_ hHeld ?_
  refine pS_ 3 67 (fa 12 15) HT_ ?_
  refine tS_ 4 68 (fa 12 31) HT_ HW_ hHeld ?_
  refine two_ (i := 5) (j := 9) (Ni := some 69) (Nj := some 6) #[true, true, true, true, true, true, false, false, false, false, false, false] #[true, true, true, true, true, false, false, false, false, true, false, false] rfl rfl rfl rfl (two_of HT_.out (by kernel_rfl)) (by decide) (by decide) (fun K hK => ?_) (fun K hK => ?_)
  case' refine_2 =>
    refine box_step ?hg (N := 6) ?hd (cs := #[.int .i64 0, .bool false, .int .i64 0, .string ⟨#[]⟩, .string ⟨#[]⟩, .string ⟨#[]⟩, .slice none 0 0]) (t := 39) ?hr ?_; (case hd => rfl); (case hg => rfl); (case hr => first | (go_simp; done) | (go_simp; rfl))
    intro gx hg wb_ hbox hb
    have hgx : Aside0 (w.heap.size + 3 ≤ gx) := ⟨by have := HX.out.le; omega⟩
    replace HX := Aside0.mk (HX.out.step hb)
    have hbox := Aside0.mk hbox
    clear hg hb
    refine hK.out _ _ (HS0.out _ HX.out) (fun hHeld => ?_)
    clear hK K
    refine norm_ (a' := ?_) ?_ ?_
    rotate_left
    · show Act.put _ (some 6) _ = _
      simp only [Act.put, List.setIfInBounds_toArray, List.set_cons_zero, List.set_cons_succ, i64_w, i32_w]
      rfl
    refine one_ (i := 5) (N := some 69) #[true, true, true, true, true, true, false, false, false, true, false, false] rfl rfl (one_of HT_.out (by kernel_rfl)) (by decide) (fun K hK => ?_)
    refine goes_ Tryz.func18 (by kernel_rfl) rfl #[.agg #[.slice A n c, .string p0, .string p1, .string p2, .string p3, .string p4, .string p5], .agg #[.int .i64 o0, .bool b0, .int .i64 m0, .string s0, .string t0, .string i0, K0]] (by rfl) rfl rfl gm_ ?_
    refine (HH0.out _ HX.out.be).mono ?_
    rintro e w2 ⟨rfl, hb⟩
    refine ⟨_, rfl, ?_⟩
    replace HX := Aside0.mk (HX.out.step hb)
    replace hbox := Aside0.mk (blk_below hbox.out hb)
    clear hb
    refine hK.out _ _ (HS0.out _ HX.out) (fun hHeld => ?_)
    clear hK K
    refine norm_ (a' := ?_) ?_ ?_
    rotate_left
    · show Act.put _ (some 69) _ = _
      simp only [Act.put, List.setIfInBounds_toArray, List.set_cons_zero, List.set_cons_succ, i64_w, i32_w]
      rfl
    refine pS_ 6 63 (fa 12 639) HT_ ?_
    refine pS_ 7 70 (fa 12 767) HT_ ?_
    refine pS_ 8 71 (fa 12 1023) HT_ ?_
    refine one_ (i := 10) (N := none) #[true, true, true, true, true, true, true, true, true, true, true, false] rfl rfl (one_of HT_.out (by kernel_rfl)) (by decide) (fun K hK => ?_)
    obtain ⟨q0, q1, q2, q3, q4, q5, q6⟩ := cells7 hbox.out
    obtain ⟨f0, f1, f2, f3, f4, f5, f6⟩ := froz7 hbox.out
    refine skip_ (w1 := ?_) (by rfl) rfl ?_ ?_
    rotate_left
    · go_simp
      rfl
    have HV : Aside0 ((((((((w2.setCell ⟨gx, 0, none⟩ (.int .i64 x.k)).setCell ⟨gx, 1, none⟩ (.bool x.b)).setCell ⟨gx, 2, none⟩ (.int .i64 x.m)).setCell ⟨gx, 3, none⟩ (.string x.s)).setCell ⟨gx, 4, none⟩ (.string x.t)).setCell ⟨gx, 5, none⟩ (.string x.i)).setCell ⟨gx, 6, none⟩ (.slice none 0 0)).heap[gx]? = some (.cells #[.int .i64 x.k, .bool x.b, .int .i64 x.m, .string x.s, .string x.t, .string x.i, .slice none 0 0] 39 (0, 0))) := ⟨set7_blk hbox.out _ _ _ _ _ _ _⟩
    replace HX : Aside0 (XK w #[.slice A n c, .string p0, .string p1, .string p2, .string p3, .string p4, .string p5] #[.int .i64 o, .bool b, .int .i64 m, .string s, .string t, .string i, .slice (some ⟨g, 0, none⟩) 2 kc] g #[.int .i64 o0, .bool b0, .int .i64 m0, .string s0, .string t0, .string i0, K0, .int .i64 o1, .bool b1, .int .i64 m1, .string s1, .string t1, .string i1, K1] (((((((w2.setCell ⟨gx, 0, none⟩ (.int .i64 x.k)).setCell ⟨gx, 1, none⟩ (.bool x.b)).setCell ⟨gx, 2, none⟩ (.int .i64 x.m)).setCell ⟨gx, 3, none⟩ (.string x.s)).setCell ⟨gx, 4, none⟩ (.string x.t)).setCell ⟨gx, 5, none⟩ (.string x.i)).setCell ⟨gx, 6, none⟩ (.slice none 0 0))) := ⟨HX.out.put hgx.out _ _ _ _ _ _ _⟩
    clear q0 q1 q2 q3 q4 q5 q6 f0 f1 f2 f3 f4 f5 f6 hbox
    generalize ((((((w2.setCell ⟨gx, 0, none⟩ (.int .i64 x.k)).setCell ⟨gx, 1, none⟩ (.bool x.b)).setCell ⟨gx, 2, none⟩ (.int .i64 x.m)).setCell ⟨gx, 3, none⟩ (.string x.s)).setCell ⟨gx, 4, none⟩ (.string x.t)).setCell ⟨gx, 5, none⟩ (.string x.i)).setCell ⟨gx, 6, none⟩ (.slice none 0 0) = wx at HV HX ⊢
    replace HX : Aside0 (XL w #[.slice A n c, .string p0, .string p1, .string p2, .string p3, .string p4, .string p5] #[.int .i64 o, .bool b, .int .i64 m, .string s, .string t, .string i, .slice (some ⟨g, 0, none⟩) 2 kc] g #[.int .i64 o0, .bool b0, .int .i64 m0, .string s0, .string t0, .string i0, K0, .int .i64 o1, .bool b1, .int .i64 m1, .string s1, .string t1, .string i1, K1] gx #[.int .i64 x.k, .bool x.b, .int .i64 x.m, .string x.s, .string x.t, .string x.i, .slice none 0 0] wx) := ⟨⟨HX.out, HV.out, hgx.out⟩⟩
    clear HV
    refine hK.out _ _ (HS0.out _ HX.out.toXK) (fun hHeld => ?_)
    clear hK K
    refine pS_ 11 7 (fa 12 4095) HT_ ?_
    refine done_ (done_of HT_.out (by kernel_rfl)) ?_
    skip
  case' refine_1 =>
    refine goes_ Tryz.func18 (by kernel_rfl) rfl #[.agg #[.slice A n c, .string p0, .string p1, .string p2, .string p3, .string p4, .string p5], .agg #[.int .i64 o0, .bool b0, .int .i64 m0, .string s0, .string t0, .string i0, K0]] (by rfl) rfl rfl gm_ ?_
    refine (HH0.out _ HX.out.be).mono ?_
    rintro e w2 ⟨rfl, hb⟩
    refine ⟨_, rfl, ?_⟩
    replace HX := Aside0.mk (HX.out.step hb)
    clear hb
    refine hK.out _ _ (HS0.out _ HX.out) (fun hHeld => ?_)
    clear hK K
    refine norm_ (a' := ?_) ?_ ?_
    rotate_left
    · show Act.put _ (some 69) _ = _
      simp only [Act.put, List.setIfInBounds_toArray, List.set_cons_zero, List.set_cons_succ, i64_w, i32_w]
      rfl
    refine pS_ 6 63 (fa 12 127) HT_ ?_
    refine pS_ 7 70 (fa 12 255) HT_ ?_
    refine pS_ 8 71 (fa 12 511) HT_ ?_
    refine one_ (i := 9) (N := some 6) #[true, true, true, true, true, true, true, true, true, true, false, false] rfl rfl (one_of HT_.out (by kernel_rfl)) (by decide) (fun K hK => ?_)
    refine box_step ?hg (N := 6) ?hd (cs := #[.int .i64 0, .bool false, .int .i64 0, .string ⟨#[]⟩, .string ⟨#[]⟩, .string ⟨#[]⟩, .slice none 0 0]) (t := 39) ?hr ?_; (case hd => rfl); (case hg => rfl); (case hr => first | (go_simp; done) | (go_simp; rfl))
    intro gx hg wb_ hbox hb
    have hgx : Aside0 (w.heap.size + 3 ≤ gx) := ⟨by have := HX.out.le; omega⟩
    replace HX := Aside0.mk (HX.out.step hb)
    have hbox := Aside0.mk hbox
    clear hg hb
    refine hK.out _ _ (HS0.out _ HX.out) (fun hHeld => ?_)
    clear hK K
    refine norm_ (a' := ?_) ?_ ?_
    rotate_left
    · show Act.put _ (some 6) _ = _
      simp only [Act.put, List.setIfInBounds_toArray, List.set_cons_zero, List.set_cons_succ, i64_w, i32_w]
      rfl
    refine one_ (i := 10) (N := none) #[true, true, true, true, true, true, true, true, true, true, true, false] rfl rfl (one_of HT_.out (by kernel_rfl)) (by decide) (fun K hK => ?_)
    obtain ⟨q0, q1, q2, q3, q4, q5, q6⟩ := cells7 hbox.out
    obtain ⟨f0, f1, f2, f3, f4, f5, f6⟩ := froz7 hbox.out
    refine skip_ (w1 := ?_) (by rfl) rfl ?_ ?_
    rotate_left
    · go_simp
      rfl
    have HV : Aside0 ((((((((wb_.setCell ⟨gx, 0, none⟩ (.int .i64 x.k)).setCell ⟨gx, 1, none⟩ (.bool x.b)).setCell ⟨gx, 2, none⟩ (.int .i64 x.m)).setCell ⟨gx, 3, none⟩ (.string x.s)).setCell ⟨gx, 4, none⟩ (.string x.t)).setCell ⟨gx, 5, none⟩ (.string x.i)).setCell ⟨gx, 6, none⟩ (.slice none 0 0)).heap[gx]? = some (.cells #[.int .i64 x.k, .bool x.b, .int .i64 x.m, .string x.s, .string x.t, .string x.i, .slice none 0 0] 39 (0, 0))) := ⟨set7_blk hbox.out _ _ _ _ _ _ _⟩
    replace HX : Aside0 (XK w #[.slice A n c, .string p0, .string p1, .string p2, .string p3, .string p4, .string p5] #[.int .i64 o, .bool b, .int .i64 m, .string s, .string t, .string i, .slice (some ⟨g, 0, none⟩) 2 kc] g #[.int .i64 o0, .bool b0, .int .i64 m0, .string s0, .string t0, .string i0, K0, .int .i64 o1, .bool b1, .int .i64 m1, .string s1, .string t1, .string i1, K1] (((((((wb_.setCell ⟨gx, 0, none⟩ (.int .i64 x.k)).setCell ⟨gx, 1, none⟩ (.bool x.b)).setCell ⟨gx, 2, none⟩ (.int .i64 x.m)).setCell ⟨gx, 3, none⟩ (.string x.s)).setCell ⟨gx, 4, none⟩ (.string x.t)).setCell ⟨gx, 5, none⟩ (.string x.i)).setCell ⟨gx, 6, none⟩ (.slice none 0 0))) := ⟨HX.out.put hgx.out _ _ _ _ _ _ _⟩
    clear q0 q1 q2 q3 q4 q5 q6 f0 f1 f2 f3 f4 f5 f6 hbox
    generalize ((((((wb_.setCell ⟨gx, 0, none⟩ (.int .i64 x.k)).setCell ⟨gx, 1, none⟩ (.bool x.b)).setCell ⟨gx, 2, none⟩ (.int .i64 x.m)).setCell ⟨gx, 3, none⟩ (.string x.s)).setCell ⟨gx, 4, none⟩ (.string x.t)).setCell ⟨gx, 5, none⟩ (.string x.i)).setCell ⟨gx, 6, none⟩ (.slice none 0 0) = wx at HV HX ⊢
    replace HX : Aside0 (XL w #[.slice A n c, .string p0, .string p1, .string p2, .string p3, .string p4, .string p5] #[.int .i64 o, .bool b, .int .i64 m, .string s, .string t, .string i, .slice (some ⟨g, 0, none⟩) 2 kc] g #[.int .i64 o0, .bool b0, .int .i64 m0, .string s0, .string t0, .string i0, K0, .int .i64 o1, .bool b1, .int .i64 m1, .string s1, .string t1, .string i1, K1] gx #[.int .i64 x.k, .bool x.b, .int .i64 x.m, .string x.s, .string x.t, .string x.i, .slice none 0 0] wx) := ⟨⟨HX.out, HV.out, hgx.out⟩⟩
    clear HV
    refine hK.out _ _ (HS0.out _ HX.out.toXK) (fun hHeld => ?_)
    clear hK K
    refine pS_ 11 7 (fa 12 4095) HT_ ?_
    refine done_ (done_of HT_.out (by kernel_rfl)) ?_
    skip
  all_goals (have q5 : wx.cell? ⟨w.heap.size + 1, 6, none⟩ = some (.slice (some ⟨g, 0, none⟩) 2 kc) := (blk_cell HX.out.b1 6).trans rfl)
  all_goals (go_upto_region 14 with (fail))
  all_goals clear q5
  all_goals (
    replace HX : Aside0 (XL w #[.slice A n c, .string p0, .string p1, .string p2, .string p3, .string p4, .string p5] #[.int .i64 o, .bool b, .int .i64 m, .string s, .string t, .string i, .slice (some ⟨g, 0, none⟩) 2 kc] g #[.int .i64 o0, .bool b0, .int .i64 m0, .string s0, .string t0, .string i0, K0, .int .i64 o1, .bool b1, .int .i64 m1, .string s1, .string t1, .string i1, K1] gx #[.int .i64 x.k, .bool x.b, .int .i64 x.m, .string x.s, .string x.t, .string x.i, .slice none 0 0] wx.drew) := ⟨HX.out.step (below_drew1 (Below.refl _ _))⟩
    refine start_ (n := 12) (S := fun W => W.cell? ⟨w.heap.size, 0, none⟩ = some (.slice A n c) ∧ W.cell? ⟨w.heap.size, 1, none⟩ = some (.string p0) ∧ W.cell? ⟨w.heap.size, 2, none⟩ = some (.string p1) ∧ W.cell? ⟨w.heap.size, 3, none⟩ = some (.string p2) ∧ W.cell? ⟨w.heap.size, 4, none⟩ = some (.string p3) ∧ W.cell? ⟨w.heap.size, 5, none⟩ = some (.string p4) ∧ W.cell? ⟨w.heap.size, 6, none⟩ = some (.string p5) ∧ W.cell? ⟨w.heap.size + 1, 6, none⟩ = some (.slice (some ⟨g, 0, none⟩) 2 kc) ∧ W.cell? ⟨g, 7, none⟩ = some (.int .i64 o1) ∧ W.cell? ⟨g, 8, none⟩ = some (.bool b1) ∧ W.cell? ⟨g, 9, none⟩ = some (.int .i64 m1) ∧ W.cell? ⟨g, 10, none⟩ = some (.string s1) ∧ W.cell? ⟨g, 11, none⟩ = some (.string t1) ∧ W.cell? ⟨g, 12, none⟩ = some (.string i1) ∧ W.cell? ⟨g, 13, none⟩ = some (K1)) (ds := []) #[false, false, false, false, false, false, false, false, false, false, false, false] (by kernel_rfl) rfl rfl (HS1.out _ _ HX.out) (fun hHeld => ?_)
    refine with_tabW rv14_tab rv14_bits (fun HT_ HW_ => ?_)
    generalize wx.drew = wd at HX hHeld ⊢
    refine pS_ 1 88 (fa 12 2) HT_ ?_
    refine tS_ 0 87 (fa 12 3) HT_ HW_ hHeld ?_
    refine tS_ 2 89 (fa 12 7) HT_ HW_ hHeld ?_
    refine pS_ 3 90 (fa 12 15) HT_ ?_
    refine tS_ 4 91 (fa 12 31) HT_ HW_ hHeld ?_
    refine two_ (i := 5) (j := 9) (Ni := some 92) (Nj := some 8) #[true, true, true, true, true, true, false, false, false, false, false, false] #[true, true, true, true, true, false, false, false, false, true, false, false] rfl rfl rfl rfl (two_of HT_.out (by kernel_rfl)) (by decide) (by decide) (fun K hK => ?_) (fun K hK => ?_)
    case' refine_2 =>
      refine box_step ?hg (N := 8) ?hd (cs := #[.int .i64 0, .bool false, .int .i64 0, .string ⟨#[]⟩, .string ⟨#[]⟩, .string ⟨#[]⟩, .slice none 0 0]) (t := 39) ?hr ?_; (case hd => rfl); (case hg => rfl); (case hr => first | (go_simp; done) | (go_simp; rfl))
      intro gy hg wb_ hbox hb
      have hgx : Aside0 (w.heap.size + 3 ≤ gy) := ⟨by have := HX.out.toXK.le; omega⟩
      have hne : Aside0 (gx < gy) := ⟨by have := blk_lt HX.out.bx; omega⟩
      replace HX := Aside0.mk (HX.out.step hb)
      have hbox := Aside0.mk hbox
      clear hg hb
      refine hK.out _ _ (HS1.out _ _ HX.out) (fun hHeld => ?_)
      clear hK K
      refine norm_ (a' := ?_) ?_ ?_
      rotate_left
      · show Act.put _ (some 8) _ = _
        simp only [Act.put, List.setIfInBounds_toArray, List.set_cons_zero, List.set_cons_succ, i64_w, i32_w]
        rfl
      refine one_ (i := 5) (N := some 92) #[true, true, true, true, true, true, false, false, false, true, false, false] rfl rfl (one_of HT_.out (by kernel_rfl)) (by decide) (fun K hK => ?_)
      refine goes_ Tryz.func18 (by kernel_rfl) rfl #[.agg #[.slice A n c, .string p0, .string p1, .string p2, .string p3, .string p4, .string p5], .agg #[.int .i64 o1, .bool b1, .int .i64 m1, .string s1, .string t1, .string i1, K1]] (by rfl) rfl rfl gm_ ?_
      refine (HH1.out _ HX.out.be).mono ?_
      rintro e w2 ⟨rfl, hb⟩
      refine ⟨_, rfl, ?_⟩
      replace HX := Aside0.mk (HX.out.step hb)
      replace hbox := Aside0.mk (blk_below hbox.out hb)
      clear hb
      refine hK.out _ _ (HS1.out _ _ HX.out) (fun hHeld => ?_)
      clear hK K
      refine norm_ (a' := ?_) ?_ ?_
      rotate_left
      · show Act.put _ (some 92) _ = _
        simp only [Act.put, List.setIfInBounds_toArray, List.set_cons_zero, List.set_cons_succ, i64_w, i32_w]
        rfl
      refine pS_ 6 86 (fa 12 639) HT_ ?_
      refine pS_ 7 93 (fa 12 767) HT_ ?_
      refine pS_ 8 94 (fa 12 1023) HT_ ?_
      refine one_ (i := 10) (N := none) #[true, true, true, true, true, true, true, true, true, true, true, false] rfl rfl (one_of HT_.out (by kernel_rfl)) (by decide) (fun K hK => ?_)
      obtain ⟨q0, q1, q2, q3, q4, q5, q6⟩ := cells7 hbox.out
      obtain ⟨f0, f1, f2, f3, f4, f5, f6⟩ := froz7 hbox.out
      refine skip_ (w1 := ?_) (by rfl) rfl ?_ ?_
      rotate_left
      · go_simp
        rfl
      have HV : Aside0 ((((((((w2.setCell ⟨gy, 0, none⟩ (.int .i64 y.k)).setCell ⟨gy, 1, none⟩ (.bool y.b)).setCell ⟨gy, 2, none⟩ (.int .i64 y.m)).setCell ⟨gy, 3, none⟩ (.string y.s)).setCell ⟨gy, 4, none⟩ (.string y.t)).setCell ⟨gy, 5, none⟩ (.string y.i)).setCell ⟨gy, 6, none⟩ (.slice none 0 0)).heap[gy]? = some (.cells #[.int .i64 y.k, .bool y.b, .int .i64 y.m, .string y.s, .string y.t, .string y.i, .slice none 0 0] 39 (0, 0))) := ⟨set7_blk hbox.out _ _ _ _ _ _ _⟩
      replace HX : Aside0 (XL w #[.slice A n c, .string p0, .string p1, .string p2, .string p3, .string p4, .string p5] #[.int .i64 o, .bool b, .int .i64 m, .string s, .string t, .string i, .slice (some ⟨g, 0, none⟩) 2 kc] g #[.int .i64 o0, .bool b0, .int .i64 m0, .string s0, .string t0, .string i0, K0, .int .i64 o1, .bool b1, .int .i64 m1, .string s1, .string t1, .string i1, K1] gx #[.int .i64 x.k, .bool x.b, .int .i64 x.m, .string x.s, .string x.t, .string x.i, .slice none 0 0] (((((((w2.setCell ⟨gy, 0, none⟩ (.int .i64 y.k)).setCell ⟨gy, 1, none⟩ (.bool y.b)).setCell ⟨gy, 2, none⟩ (.int .i64 y.m)).setCell ⟨gy, 3, none⟩ (.string y.s)).setCell ⟨gy, 4, none⟩ (.string y.t)).setCell ⟨gy, 5, none⟩ (.string y.i)).setCell ⟨gy, 6, none⟩ (.slice none 0 0))) := ⟨HX.out.put hgx.out (by have := hne.out; omega) _ _ _ _ _ _ _⟩
      clear q0 q1 q2 q3 q4 q5 q6 f0 f1 f2 f3 f4 f5 f6 hbox
      generalize ((((((w2.setCell ⟨gy, 0, none⟩ (.int .i64 y.k)).setCell ⟨gy, 1, none⟩ (.bool y.b)).setCell ⟨gy, 2, none⟩ (.int .i64 y.m)).setCell ⟨gy, 3, none⟩ (.string y.s)).setCell ⟨gy, 4, none⟩ (.string y.t)).setCell ⟨gy, 5, none⟩ (.string y.i)).setCell ⟨gy, 6, none⟩ (.slice none 0 0) = wy at HV HX ⊢
      refine hK.out _ _ (HS1.out _ _ HX.out) (fun hHeld => ?_)
      clear hK K
      refine pS_ 11 7 (fa 12 4095) HT_ ?_
      refine done_ (done_of HT_.out (by kernel_rfl)) ?_
      skip
    case' refine_1 =>
      refine goes_ Tryz.func18 (by kernel_rfl) rfl #[.agg #[.slice A n c, .string p0, .string p1, .string p2, .string p3, .string p4, .string p5], .agg #[.int .i64 o1, .bool b1, .int .i64 m1, .string s1, .string t1, .string i1, K1]] (by rfl) rfl rfl gm_ ?_
      refine (HH1.out _ HX.out.be).mono ?_
      rintro e w2 ⟨rfl, hb⟩
      refine ⟨_, rfl, ?_⟩
      replace HX := Aside0.mk (HX.out.step hb)
      clear hb
      refine hK.out _ _ (HS1.out _ _ HX.out) (fun hHeld => ?_)
      clear hK K
      refine norm_ (a' := ?_) ?_ ?_
      rotate_left
      · show Act.put _ (some 92) _ = _
        simp only [Act.put, List.setIfInBounds_toArray, List.set_cons_zero, List.set_cons_succ, i64_w, i32_w]
        rfl
      refine pS_ 6 86 (fa 12 127) HT_ ?_
      refine pS_ 7 93 (fa 12 255) HT_ ?_
      refine pS_ 8 94 (fa 12 511) HT_ ?_
      refine one_ (i := 9) (N := some 8) #[true, true, true, true, true, true, true, true, true, true, false, false] rfl rfl (one_of HT_.out (by kernel_rfl)) (by decide) (fun K hK => ?_)
      refine box_step ?hg (N := 8) ?hd (cs := #[.int .i64 0, .bool false, .int .i64 0, .string ⟨#[]⟩, .string ⟨#[]⟩, .string ⟨#[]⟩, .slice none 0 0]) (t := 39) ?hr ?_; (case hd => rfl); (case hg => rfl); (case hr => first | (go_simp; done) | (go_simp; rfl))
      intro gy hg wb_ hbox hb
      have hgx : Aside0 (w.heap.size + 3 ≤ gy) := ⟨by have := HX.out.toXK.le; omega⟩
      have hne : Aside0 (gx < gy) := ⟨by have := blk_lt HX.out.bx; omega⟩
      replace HX := Aside0.mk (HX.out.step hb)
      have hbox := Aside0.mk hbox
      clear hg hb
      refine hK.out _ _ (HS1.out _ _ HX.out) (fun hHeld => ?_)
      clear hK K
      refine norm_ (a' := ?_) ?_ ?_
      rotate_left
      · show Act.put _ (some 8) _ = _
        simp only [Act.put, List.setIfInBounds_toArray, List.set_cons_zero, List.set_cons_succ, i64_w, i32_w]
        rfl
      refine one_ (i := 10) (N := none) #[true, true, true, true, true, true, true, true, true, true, true, false] rfl rfl (one_of HT_.out (by kernel_rfl)) (by decide) (fun K hK => ?_)
      obtain ⟨q0, q1, q2, q3, q4, q5, q6⟩ := cells7 hbox.out
      obtain ⟨f0, f1, f2, f3, f4, f5, f6⟩ := froz7 hbox.out
      refine skip_ (w1 := ?_) (by rfl) rfl ?_ ?_
      rotate_left
      · go_simp
        rfl
      have HV : Aside0 ((((((((wb_.setCell ⟨gy, 0, none⟩ (.int .i64 y.k)).setCell ⟨gy, 1, none⟩ (.bool y.b)).setCell ⟨gy, 2, none⟩ (.int .i64 y.m)).setCell ⟨gy, 3, none⟩ (.string y.s)).setCell ⟨gy, 4, none⟩ (.string y.t)).setCell ⟨gy, 5, none⟩ (.string y.i)).setCell ⟨gy, 6, none⟩ (.slice none 0 0)).heap[gy]? = some (.cells #[.int .i64 y.k, .bool y.b, .int .i64 y.m, .string y.s, .string y.t, .string y.i, .slice none 0 0] 39 (0, 0))) := ⟨set7_blk hbox.out _ _ _ _ _ _ _⟩
      replace HX : Aside0 (XL w #[.slice A n c, .string p0, .string p1, .string p2, .string p3, .string p4, .string p5] #[.int .i64 o, .bool b, .int .i64 m, .string s, .string t, .string i, .slice (some ⟨g, 0, none⟩) 2 kc] g #[.int .i64 o0, .bool b0, .int .i64 m0, .string s0, .string t0, .string i0, K0, .int .i64 o1, .bool b1, .int .i64 m1, .string s1, .string t1, .string i1, K1] gx #[.int .i64 x.k, .bool x.b, .int .i64 x.m, .string x.s, .string x.t, .string x.i, .slice none 0 0] (((((((wb_.setCell ⟨gy, 0, none⟩ (.int .i64 y.k)).setCell ⟨gy, 1, none⟩ (.bool y.b)).setCell ⟨gy, 2, none⟩ (.int .i64 y.m)).setCell ⟨gy, 3, none⟩ (.string y.s)).setCell ⟨gy, 4, none⟩ (.string y.t)).setCell ⟨gy, 5, none⟩ (.string y.i)).setCell ⟨gy, 6, none⟩ (.slice none 0 0))) := ⟨HX.out.put hgx.out (by have := hne.out; omega) _ _ _ _ _ _ _⟩
      clear q0 q1 q2 q3 q4 q5 q6 f0 f1 f2 f3 f4 f5 f6 hbox
      generalize ((((((wb_.setCell ⟨gy, 0, none⟩ (.int .i64 y.k)).setCell ⟨gy, 1, none⟩ (.bool y.b)).setCell ⟨gy, 2, none⟩ (.int .i64 y.m)).setCell ⟨gy, 3, none⟩ (.string y.s)).setCell ⟨gy, 4, none⟩ (.string y.t)).setCell ⟨gy, 5, none⟩ (.string y.i)).setCell ⟨gy, 6, none⟩ (.slice none 0 0) = wy at HV HX ⊢
      refine hK.out _ _ (HS1.out _ _ HX.out) (fun hHeld => ?_)
      clear hK K
      refine pS_ 11 7 (fa 12 4095) HT_ ?_
      refine done_ (done_of HT_.out (by kernel_rfl)) ?_
      skip
    all_goals skip
    all_goals (obtain ⟨q0, q1, q2, q3, q4, q5, q6⟩ := cells7 HX.out.b0)
    all_goals (have q7 : wy.cell? ⟨w.heap.size + 1, 0, none⟩ = some (.int .i64 o) := (blk_cell HX.out.b1 0).trans rfl)
    all_goals (obtain ⟨r0, r1, r2, r3, r4, r5, r6⟩ := cells7 HX.out.bx)
    all_goals (obtain ⟨u0, u1, u2, u3, u4, u5, u6⟩ := cells7 HV.out)
    all_goals (go_wp2_with (go_at_call 35; refine (HHD.out _ HX.out.be).mono ?_; rintro e w5 ⟨rfl, hb⟩; have HXe := Aside0.mk (HX.out.step hb); clear hb q0 q1 q2 q3 q4 q5 q6 q7 r0 r1 r2 r3 r4 r5 r6 u0 u1 u2 u3 u4 u5 u6; obtain ⟨q0, q1, q2, q3, q4, q5, q6⟩ := cells7 HXe.out.b2; obtain ⟨f0, f1, f2, f3, f4, f5, f6⟩ := froz7 HXe.out.b2))
    all_goals (try simp only [Exit.inBlock, Exit.then])
    all_goals (refine bodyPost_ret (results_row_tmp rfl _ _ (w.heap.size + 2) 39 _ (0, 0) _ rfl (set7_blk HXe.out.b2 _ _ _ _ _ _ _) Tryz.underlying39 rfl (by kernel_rfl)) rfl ?_)
    all_goals (exact ⟨rfl, set7_below HXe.out.be (by omega) _ _ _ _ _ _ _⟩))
end Go.Proofs.YtelibndkkokadaaGreat.EV
namespace Go.Proofs.YtelibndkkokadaaGreat.EV
open Go.RowKit Go.Proofs.YtelibndkkokadaaGreatW.PrintWords Go.Proofs.YtelibndkkokadaaGreatW.PrintLast Go.Proofs.YtelibndkkokadaaGreat.HandV Go.Proofs.YtelibndkkokadaaGreatW.PrintMore
open Go.Proofs.YtelibndkkokadaaGreat.GB
attribute [local go_sem] max2_int min2_int max_two min_two max_three min_three max_four min_four   -- for this text's walks alone
set_option linter.unusedVariables false
set_option linter.unusedSimpArgs false
-- IMPORT .EV4
-- IMPORT .Sqz
-- IMPORT Derived.Deep.RegionWith
-- IMPORT Derived.Deep.CutRange
theorem bn4 (w : World) (o1 o2 o3 o4 : Obj) : ((((w.alloc o1).alloc o2).alloc o3).alloc o4).heap[w.heap.size + 3]? = some o4 := by
  have h := bn3 (w.alloc o1) o2 o3 o4
  have hs : (w.alloc o1).heap.size = w.heap.size + 1 := by simp
  rw [hs] at h
  exact h
set_option maxRecDepth 100000 in
set_option maxHeartbeats 16000000 in
theorem in_uids (A : Option Addr) (n c : Nat) (p0 p1 p2 p3 p4 p5 : ByteArray) (t i t2 i2 : ByteArray) (q : Bool) (w : World) (hI : ∀ W, Below w.heap.size w W → Calls Tryz.prog 39 #[.slice A n c, .agg #[.string t, .string i], .agg #[.string t2, .string i2]] W fun e w' => e = .returned (.bool q) ∧ Below W.heap.size W w') :
    Calls Tryz.prog 54 #[.agg #[.slice A n c, .string p0, .string p1, .string p2, .string p3, .string p4, .string p5], .iface 136 (.agg #[.string t, .string i]), .iface 136 (.agg #[.string t2, .string i2])] w (GivF w ⟨1, q, 0, ⟨#[]⟩, ⟨#[]⟩, ⟨#[]⟩⟩ 0) := by
  have h1 := ta_uid (.agg #[.string t, .string i])
  have h2 := ta_uid (.agg #[.string t2, .string i2])
  have HI := Aside0.mk hI
  clear hI
  unfold GivF
  go_enter Tryz.func54, Tryz.ntmps54
  go_wp2_with (first | (go_at_call 39; refine (HI.out _ ?hB).mono ?_; (case hB => repeat (first | exact Below.refl _ _ | apply below_alloc)); rintro e w1 ⟨rfl, hb⟩; have HB : Aside0 (Below w.heap.size w w1) := ⟨below_step (by repeat (first | exact Below.refl _ _ | apply below_alloc)) hb⟩; have HZ : Aside0 (w1.heap[w.heap.size + 1]? = some zO) := ⟨by refine blk_below ?_ hb; exact blk_alloc (blk_alloc (bn2 _ _ _) _) _⟩; clear hb) | (go_at_call 45; refine (back_tr _ _).mono ?_; rintro e w2 ⟨rfl, hb⟩; have HB2 := Aside0.mk (below_step HB.out hb); have HZ2 := Aside0.mk (blk_below HZ.out hb); clear hb; obtain ⟨q0, q1, q2, q3, q4, q5, q6⟩ := cells7 HZ2.out; obtain ⟨f0, f1, f2, f3, f4, f5, f6⟩ := froz7 HZ2.out))
  (try simp only [Exit.inBlock, Exit.then])
  refine bodyPost_ret (results_row_tmp rfl _ _ (w.heap.size + 1) 39 _ (0, 0) _ rfl (set7_blk HZ2.out _ _ _ _ _ _ _) Tryz.underlying39 rfl (by kernel_rfl)) rfl ?_
  exact ⟨rfl, set7_below HB2.out (by omega) _ _ _ _ _ _ _⟩
/-- The boxes of a call of double. -/
structure XD (w : World) (wc ca cb : Array Value) (W : World) : Prop where
  b0 : W.heap[w.heap.size]? = some (.cells wc 70 (0, 0))
  b1 : W.heap[w.heap.size + 1]? = some (.cells ca 39 (0, 0))
  b2 : W.heap[w.heap.size + 2]? = some (.cells cb 39 (0, 0))
  b3 : W.heap[w.heap.size + 3]? = some zO
  be : Below w.heap.size w W
theorem XD.step {w W W' : World} {wc ca cb : Array Value} (h : XD w wc ca cb W) (hb : Below W.heap.size W W') : XD w wc ca cb W' := ⟨blk_below h.b0 hb, blk_below h.b1 hb, blk_below h.b2 hb, blk_below h.b3 hb, below_step h.be hb⟩
theorem XD.new (w : World) (wc ca cb : Array Value) : XD w wc ca cb ((((w.alloc (.cells wc 70 (0, 0))).alloc (.cells ca 39 (0, 0))).alloc (.cells cb 39 (0, 0))).alloc zO) :=
  ⟨blk_alloc (blk_alloc (blk_alloc (blk_new _ _) _) _) _, blk_alloc (blk_alloc (bn2 _ _ _) _) _, blk_alloc (bn3 _ _ _ _) _, bn4 _ _ _ _ _, below_alloc (below_alloc (below_alloc (below_alloc (Below.refl _ _) _) _) _) _⟩
theorem XD.put {w W : World} {wc ca cb : Array Value} (h : XD w wc ca cb W) (v0 v1 v2 v3 v4 v5 v6 : Value) : (set7 W (w.heap.size + 3) v0 v1 v2 v3 v4 v5 v6).heap[w.heap.size]? = some (.cells wc 70 (0, 0)) ∧ (set7 W (w.heap.size + 3) v0 v1 v2 v3 v4 v5 v6).heap[w.heap.size + 1]? = some (.cells ca 39 (0, 0)) ∧ (set7 W (w.heap.size + 3) v0 v1 v2 v3 v4 v5 v6).heap[w.heap.size + 2]? = some (.cells cb 39 (0, 0)) :=
  ⟨set7_far h.b0 (by omega) _ _ _ _ _ _ _, set7_far h.b1 (by omega) _ _ _ _ _ _ _, set7_far h.b2 (by omega) _ _ _ _ _ _ _⟩
def rd11_T : Bool × List (List Nat × List Nat) := (true, [([], []), ([], []), ([1], [1]), ([], []), ([3, 2], [3]), ([0, 2, 4, 4], [0, 2, 4]), ([5], [5]), ([5], [5]), ([6, 5, 0, 1, 2, 3, 4, 5, 6, 7], [6]), ([7, 8, 0, 1, 2, 3, 4, 5, 6, 7, 8], [7])])
def rd11_B : List Nat := [0, 0, 2, 0, 14, 31, 63, 63, 255, 511]
theorem rd11_tab : rtab .any (opsOf Tryz.f35 11) = rd11_T := by kernel_rfl
theorem rd11_bits : waitsOk rd11_T.2 rd11_B = true := by kernel_rfl
def rd12_T : Bool × List (List Nat × List Nat) := (true, [([], []), ([], []), ([1], [1]), ([], []), ([3, 2], [3]), ([0, 2, 4, 4], [0, 2, 4]), ([5], [5]), ([5], [5]), ([6, 5, 0, 1, 2, 3, 4, 5, 6, 7], [6]), ([7, 8, 0, 1, 2, 3, 4, 5, 6, 7, 8], [7])])
def rd12_B : List Nat := [0, 0, 2, 0, 14, 31, 63, 63, 255, 511]
theorem rd12_tab : rtab .any (opsOf Tryz.f35 12) = rd12_T := by kernel_rfl
theorem rd12_bits : waitsOk rd12_T.2 rd12_B = true := by kernel_rfl
set_option maxRecDepth 100000 in
set_option maxHeartbeats 16000000 in
theorem double_type (A : Option Addr) (n c : Nat) (p0 p1 p2 p3 p4 p5 : ByteArray) (b0 : Bool) (m0 : Int) (s0 t0 i0 : ByteArray) (b1 : Bool) (m1 : Int) (s1 t1 i1 : ByteArray)  (W0 : World) : DSays (.agg #[.slice A n c, .string p0, .string p1, .string p2, .string p3, .string p4, .string p5]) 14 ⟨2, b0, m0, s0, t0, i0⟩ ⟨1, b1, m1, s1, t1, i1⟩ ⟨0, false, 0, ⟨#[]⟩, ⟨#[]⟩, ⟨#[]⟩⟩ 16 W0 := by
  intro w hw
  have HX : Aside0 (XD w #[.slice A n c, .string p0, .string p1, .string p2, .string p3, .string p4, .string p5] #[.int .i64 2, .bool b0, .int .i64 m0, .string s0, .string t0, .string i0, .slice none 0 0] #[.int .i64 1, .bool b1, .int .i64 m1, .string s1, .string t1, .string i1, .slice none 0 0] _) := ⟨XD.new w _ _ _⟩
  have HSP : Aside0 (∀ W : World, W.heap[w.heap.size]? = some (.cells #[.slice A n c, .string p0, .string p1, .string p2, .string p3, .string p4, .string p5] 70 (0, 0)) ∧ W.heap[w.heap.size + 1]? = some (.cells #[.int .i64 2, .bool b0, .int .i64 m0, .string s0, .string t0, .string i0, .slice none 0 0] 39 (0, 0)) ∧ W.heap[w.heap.size + 2]? = some (.cells #[.int .i64 1, .bool b1, .int .i64 m1, .string s1, .string t1, .string i1, .slice none 0 0] 39 (0, 0)) → W.cell? ⟨w.heap.size, 0, none⟩ = some (.slice A n c) ∧ W.cell? ⟨w.heap.size, 1, none⟩ = some (.string p0) ∧ W.cell? ⟨w.heap.size, 2, none⟩ = some (.string p1) ∧ W.cell? ⟨w.heap.size, 3, none⟩ = some (.string p2) ∧ W.cell? ⟨w.heap.size, 4, none⟩ = some (.string p3) ∧ W.cell? ⟨w.heap.size, 5, none⟩ = some (.string p4) ∧ W.cell? ⟨w.heap.size, 6, none⟩ = some (.string p5) ∧ W.cell? ⟨w.heap.size + 1, 0, none⟩ = some (.int .i64 2) ∧ W.cell? ⟨w.heap.size + 1, 1, none⟩ = some (.bool b0) ∧ W.cell? ⟨w.heap.size + 1, 2, none⟩ = some (.int .i64 m0) ∧ W.cell? ⟨w.heap.size + 1, 3, none⟩ = some (.string s0) ∧ W.cell? ⟨w.heap.size + 1, 4, none⟩ = some (.string t0) ∧ W.cell? ⟨w.heap.size + 1, 5, none⟩ = some (.string i0) ∧ W.cell? ⟨w.heap.size + 1, 6, none⟩ = some (.slice none 0 0) ∧ W.cell? ⟨w.heap.size + 2, 0, none⟩ = some (.int .i64 1) ∧ W.cell? ⟨w.heap.size + 2, 1, none⟩ = some (.bool b1) ∧ W.cell? ⟨w.heap.size + 2, 2, none⟩ = some (.int .i64 m1) ∧ W.cell? ⟨w.heap.size + 2, 3, none⟩ = some (.string s1) ∧ W.cell? ⟨w.heap.size + 2, 4, none⟩ = some (.string t1) ∧ W.cell? ⟨w.heap.size + 2, 5, none⟩ = some (.string i1) ∧ W.cell? ⟨w.heap.size + 2, 6, none⟩ = some (.slice none 0 0)) := ⟨fun W h => ⟨(blk_cell h.1 0).trans rfl, (blk_cell h.1 1).trans rfl, (blk_cell h.1 2).trans rfl, (blk_cell h.1 3).trans rfl, (blk_cell h.1 4).trans rfl, (blk_cell h.1 5).trans rfl, (blk_cell h.1 6).trans rfl, (blk_cell h.2.1 0).trans rfl, (blk_cell h.2.1 1).trans rfl, (blk_cell h.2.1 2).trans rfl, (blk_cell h.2.1 3).trans rfl, (blk_cell h.2.1 4).trans rfl, (blk_cell h.2.1 5).trans rfl, (blk_cell h.2.1 6).trans rfl, (blk_cell h.2.2 0).trans rfl, (blk_cell h.2.2 1).trans rfl, (blk_cell h.2.2 2).trans rfl, (blk_cell h.2.2 3).trans rfl, (blk_cell h.2.2 4).trans rfl, (blk_cell h.2.2 5).trans rfl, (blk_cell h.2.2 6).trans rfl⟩⟩
  have HSD : Aside0 (∀ W, XD w #[.slice A n c, .string p0, .string p1, .string p2, .string p3, .string p4, .string p5] #[.int .i64 2, .bool b0, .int .i64 m0, .string s0, .string t0, .string i0, .slice none 0 0] #[.int .i64 1, .bool b1, .int .i64 m1, .string s1, .string t1, .string i1, .slice none 0 0] W → W.cell? ⟨w.heap.size, 0, none⟩ = some (.slice A n c) ∧ W.cell? ⟨w.heap.size, 1, none⟩ = some (.string p0) ∧ W.cell? ⟨w.heap.size, 2, none⟩ = some (.string p1) ∧ W.cell? ⟨w.heap.size, 3, none⟩ = some (.string p2) ∧ W.cell? ⟨w.heap.size, 4, none⟩ = some (.string p3) ∧ W.cell? ⟨w.heap.size, 5, none⟩ = some (.string p4) ∧ W.cell? ⟨w.heap.size, 6, none⟩ = some (.string p5) ∧ W.cell? ⟨w.heap.size + 1, 0, none⟩ = some (.int .i64 2) ∧ W.cell? ⟨w.heap.size + 1, 1, none⟩ = some (.bool b0) ∧ W.cell? ⟨w.heap.size + 1, 2, none⟩ = some (.int .i64 m0) ∧ W.cell? ⟨w.heap.size + 1, 3, none⟩ = some (.string s0) ∧ W.cell? ⟨w.heap.size + 1, 4, none⟩ = some (.string t0) ∧ W.cell? ⟨w.heap.size + 1, 5, none⟩ = some (.string i0) ∧ W.cell? ⟨w.heap.size + 1, 6, none⟩ = some (.slice none 0 0) ∧ W.cell? ⟨w.heap.size + 2, 0, none⟩ = some (.int .i64 1) ∧ W.cell? ⟨w.heap.size + 2, 1, none⟩ = some (.bool b1) ∧ W.cell? ⟨w.heap.size + 2, 2, none⟩ = some (.int .i64 m1) ∧ W.cell? ⟨w.heap.size + 2, 3, none⟩ = some (.string s1) ∧ W.cell? ⟨w.heap.size + 2, 4, none⟩ = some (.string t1) ∧ W.cell? ⟨w.heap.size + 2, 5, none⟩ = some (.string i1) ∧ W.cell? ⟨w.heap.size + 2, 6, none⟩ = some (.slice none 0 0)) := ⟨fun W h => ⟨(blk_cell h.b0 0).trans rfl, (blk_cell h.b0 1).trans rfl, (blk_cell h.b0 2).trans rfl, (blk_cell h.b0 3).trans rfl, (blk_cell h.b0 4).trans rfl, (blk_cell h.b0 5).trans rfl, (blk_cell h.b0 6).trans rfl, (blk_cell h.b1 0).trans rfl, (blk_cell h.b1 1).trans rfl, (blk_cell h.b1 2).trans rfl, (blk_cell h.b1 3).trans rfl, (blk_cell h.b1 4).trans rfl, (blk_cell h.b1 5).trans rfl, (blk_cell h.b1 6).trans rfl, (blk_cell h.b2 0).trans rfl, (blk_cell h.b2 1).trans rfl, (blk_cell h.b2 2).trans rfl, (blk_cell h.b2 3).trans rfl, (blk_cell h.b2 4).trans rfl, (blk_cell h.b2 5).trans rfl, (blk_cell h.b2 6).trans rfl⟩⟩
  clear hw
  unfold GivF
  go_enter Tryz.func35, Tryz.ntmps35
  go_upto_region 12 with (fail)
  generalize (((w.alloc (.cells #[.slice A n c, .string p0, .string p1, .string p2, .string p3, .string p4, .string p5] 70)).alloc (.cells #[.int .i64 2, .bool b0, .int .i64 m0, .string s0, .string t0, .string i0, .slice none 0 0] 39)).alloc (.cells #[.int .i64 1, .bool b1, .int .i64 m1, .string s1, .string t1, .string i1, .slice none 0 0] 39)).alloc (.cells #[.int .i64 0, .bool false, .int .i64 0, .string ⟨#[]⟩, .string ⟨#[]⟩, .string ⟨#[]⟩, .slice none 0 0] 39) = w3 at HX ⊢
  replace HX : Aside0 (XD w #[.slice A n c, .string p0, .string p1, .string p2, .string p3, .string p4, .string p5] #[.int .i64 2, .bool b0, .int .i64 m0, .string s0, .string t0, .string i0, .slice none 0 0] #[.int .i64 1, .bool b1, .int .i64 m1, .string s1, .string t1, .string i1, .slice none 0 0] w3.drew) := ⟨HX.out.step (below_drew1 (Below.refl _ _))⟩
  refine start_ (n := 10) (S := fun W => W.cell? ⟨w.heap.size, 0, none⟩ = some (.slice A n c) ∧ W.cell? ⟨w.heap.size, 1, none⟩ = some (.string p0) ∧ W.cell? ⟨w.heap.size, 2, none⟩ = some (.string p1) ∧ W.cell? ⟨w.heap.size, 3, none⟩ = some (.string p2) ∧ W.cell? ⟨w.heap.size, 4, none⟩ = some (.string p3) ∧ W.cell? ⟨w.heap.size, 5, none⟩ = some (.string p4) ∧ W.cell? ⟨w.heap.size, 6, none⟩ = some (.string p5) ∧ W.cell? ⟨w.heap.size + 1, 0, none⟩ = some (.int .i64 2) ∧ W.cell? ⟨w.heap.size + 1, 1, none⟩ = some (.bool b0) ∧ W.cell? ⟨w.heap.size + 1, 2, none⟩ = some (.int .i64 m0) ∧ W.cell? ⟨w.heap.size + 1, 3, none⟩ = some (.string s0) ∧ W.cell? ⟨w.heap.size + 1, 4, none⟩ = some (.string t0) ∧ W.cell? ⟨w.heap.size + 1, 5, none⟩ = some (.string i0) ∧ W.cell? ⟨w.heap.size + 1, 6, none⟩ = some (.slice none 0 0) ∧ W.cell? ⟨w.heap.size + 2, 0, none⟩ = some (.int .i64 1) ∧ W.cell? ⟨w.heap.size + 2, 1, none⟩ = some (.bool b1) ∧ W.cell? ⟨w.heap.size + 2, 2, none⟩ = some (.int .i64 m1) ∧ W.cell? ⟨w.heap.size + 2, 3, none⟩ = some (.string s1) ∧ W.cell? ⟨w.heap.size + 2, 4, none⟩ = some (.string t1) ∧ W.cell? ⟨w.heap.size + 2, 5, none⟩ = some (.string i1) ∧ W.cell? ⟨w.heap.size + 2, 6, none⟩ = some (.slice none 0 0)) (ds := []) #[false, false, false, false, false, false, false, false, false, false] (by kernel_rfl) rfl rfl (HSD.out _ HX.out) (fun hHeld => ?_)
  refine with_tabW rd12_tab rd12_bits (fun HT_ HW_ => ?_)
  generalize w3.drew = wd at HX hHeld ⊢
  refine pS_ 0 47 (fa 10 1) HT_ ?_
  refine tS_ 1 48 (fa 10 3) HT_ HW_ hHeld ?_
  refine tS_ 3 50 (fa 10 11) HT_ HW_ hHeld ?_
  refine one_ (i := 2) (N := some 49) #[true, true, true, true, false, false, false, false, false, false] rfl rfl (one_of HT_.out (by kernel_rfl)) (by decide) (fun K hK => ?_)
  refine goes_ Tryz.func47 (by kernel_rfl) rfl #[.agg #[.int .i64 2, .bool b0, .int .i64 m0, .string s0, .string t0, .string i0, .slice none 0 0]] (by rfl) rfl rfl gm_ ?_
  refine (of_2 b0 m0 s0 t0 i0 none 0 0 _).mono ?_
  rintro e w4 ⟨rfl, hb⟩
  refine ⟨_, rfl, ?_⟩
  replace HX := Aside0.mk (HX.out.step hb)
  clear hb
  refine hK.out _ _ (HSD.out _ HX.out) (fun hHeld => ?_)
  clear hK K
  refine norm_ (a' := ?_) ?_ ?_
  rotate_left
  · show Act.put _ (some 49) _ = _
    simp only [Act.put, List.setIfInBounds_toArray, List.set_cons_zero, List.set_cons_succ, i64_w, i32_w]
    rfl
  refine one_ (i := 4) (N := some 51) #[true, true, true, true, true, false, false, false, false, false] rfl rfl (one_of HT_.out (by kernel_rfl)) (by decide) (fun K hK => ?_)
  refine goes_ Tryz.func47 (by kernel_rfl) rfl #[.agg #[.int .i64 1, .bool b1, .int .i64 m1, .string s1, .string t1, .string i1, .slice none 0 0]] (by rfl) rfl rfl gm_ ?_
  refine (of_1 b1 m1 s1 t1 i1 none 0 0 _).mono ?_
  rintro e w5 ⟨rfl, hb⟩
  refine ⟨_, rfl, ?_⟩
  replace HX := Aside0.mk (HX.out.step hb)
  clear hb
  refine hK.out _ _ (HSD.out _ HX.out) (fun hHeld => ?_)
  clear hK K
  refine norm_ (a' := ?_) ?_ ?_
  rotate_left
  · show Act.put _ (some 51) _ = _
    simp only [Act.put, List.setIfInBounds_toArray, List.set_cons_zero, List.set_cons_succ, i64_w, i32_w]
    rfl
  refine one_ (i := 5) (N := some 52) #[true, true, true, true, true, true, false, false, false, false] rfl rfl (one_of HT_.out (by kernel_rfl)) (by decide) (fun K hK => ?_)
  refine goes_ Tryz.func55 (by kernel_rfl) rfl #[.int .i64 14, .iface 120 (.int .i64 m0), .iface 112 (.bool b1)] (by rfl) rfl rfl gm_ ?_
  refine (numbers_type_b 14 m0 (.iface 112 (.bool b1)) (fun w => ta_number_truth _ w) _).mono ?_
  rintro e w6 ⟨rfl, hb⟩
  refine ⟨_, rfl, ?_⟩
  replace HX := Aside0.mk (HX.out.step hb)
  clear hb
  refine hK.out _ _ (HSD.out _ HX.out) (fun hHeld => ?_)
  clear hK K
  refine norm_ (a' := ?_) ?_ ?_
  rotate_left
  · show Act.put _ (some 52) _ = _
    simp only [Act.put, List.setIfInBounds_toArray, List.set_cons_zero, List.set_cons_succ, i64_w, i32_w]
    rfl
  refine pS_ 6 53 (fa 10 127) HT_ ?_
  refine pS_ 7 54 (fa 10 255) HT_ ?_
  refine one_ (i := 8) (N := none) #[true, true, true, true, true, true, true, true, true, false] rfl rfl (one_of HT_.out (by kernel_rfl)) (by decide) (fun K hK => ?_)
  obtain ⟨q0, q1, q2, q3, q4, q5, q6⟩ := cells7 HX.out.b3
  obtain ⟨f0, f1, f2, f3, f4, f5, f6⟩ := froz7 HX.out.b3
  refine skip_ (w1 := ?_) (by rfl) rfl ?_ ?_
  rotate_left
  · go_simp
    rfl
  refine hK.out _ _ (HSP.out _ (HX.out.put _ _ _ _ _ _ _)) (fun hHeld => ?_)
  clear hK K
  refine pS_ 9 9 (fa 10 1023) HT_ ?_
  refine done_ (done_of HT_.out (by kernel_rfl)) ?_
  try go_wp2
  (try simp only [Exit.inBlock, Exit.then])
  refine bodyPost_ret (results_row_tmp rfl _ _ (w.heap.size + 3) 39 _ (0, 0) _ rfl (set7_blk HX.out.b3 _ _ _ _ _ _ _) Tryz.underlying39 rfl (by kernel_rfl)) rfl ?_
  exact ⟨rfl, set7_below HX.out.be (by omega) _ _ _ _ _ _ _⟩
end Go.Proofs.YtelibndkkokadaaGreat.EV
namespace Go.Proofs.YtelibndkkokadaaGreat.EV
open Go.RowKit Go.Proofs.YtelibndkkokadaaGreatW.PrintWords Go.Proofs.YtelibndkkokadaaGreatW.PrintLast Go.Proofs.YtelibndkkokadaaGreat.HandV Go.Proofs.YtelibndkkokadaaGreatW.PrintMore
open Go.Proofs.YtelibndkkokadaaGreat.GB
attribute [local go_sem] max2_int min2_int max_two min_two max_three min_three max_four min_four   -- for this text's walks alone
set_option linter.unusedVariables false
set_option linter.unusedSimpArgs false
-- IMPORT .EV5
-- IMPORT .Sqz
-- IMPORT Derived.Deep.RegionWith
-- IMPORT Derived.Deep.CutRange
theorem ta_truth1 (x : Value) (w : World) : Sem.run Tryz.prog (Instr.typeAssert (.iface 112 x) 20 112 false) w = .ok x w := by simp [Instr.typeAssert, go_sem]
set_option maxRecDepth 100000 in
set_option maxHeartbeats 16000000 in
theorem asked_tr (A : Option Addr) (n c : Nat) (p0 p1 p2 p3 p4 p5 : ByteArray) (o0 : Int) (b0 : Bool) (m0 : Int) (s0 t0 i0 : ByteArray) (K0 : Value) (q : Bool) (m : Int) (s t i : ByteArray) (W0 : World) (h0 : Says (.agg #[.slice A n c, .string p0, .string p1, .string p2, .string p3, .string p4, .string p5]) (.agg #[.int .i64 o0, .bool b0, .int .i64 m0, .string s0, .string t0, .string i0, K0]) ⟨1, q, m, s, t, i⟩ 0 W0) (w : World) (hw : Below W0.heap.size W0 w) : Calls Tryz.prog 44 #[.agg #[.slice A n c, .string p0, .string p1, .string p2, .string p3, .string p4, .string p5], .agg #[.int .i64 o0, .bool b0, .int .i64 m0, .string s0, .string t0, .string i0, K0]] w fun e w' => e = .returned (.tuple #[.bool q, .int .i64 0]) ∧ Below w.heap.size w w' := by
  have HH : Aside0 (∀ W, Below w.heap.size w W → Calls Tryz.prog 18 #[.agg #[.slice A n c, .string p0, .string p1, .string p2, .string p3, .string p4, .string p5], .agg #[.int .i64 o0, .bool b0, .int .i64 m0, .string s0, .string t0, .string i0, K0]] W fun e w' => e = .returned (.tuple #[.agg #[.int .i64 1, .bool q, .int .i64 m, .string s, .string t, .string i, .slice none 0 0], .int .i64 0]) ∧ Below W.heap.size W w') := ⟨fun W hW => h0 W (below_step hw hW)⟩
  have h1 := ta_truth1 (.bool q)
  clear h0 hw
  go_enter Tryz.func44, Tryz.ntmps44
  go_wp2_with (first | (go_at_call 18; refine (HH.out _ ?hB).mono ?_; (case hB => repeat (first | exact Below.refl _ _ | apply below_alloc)); rintro e w1 ⟨rfl, hb⟩; have HB : Aside0 (Below w.heap.size w w1) := ⟨below_step (by repeat (first | exact Below.refl _ _ | apply below_alloc)) hb⟩; clear hb) | (go_at_call 47; refine (of_1 q m s t i none 0 0 _).mono ?_; rintro e w2 ⟨rfl, hb⟩; have HB2 : Aside0 (Below w.heap.size w w2) := ⟨below_step (below_alloc HB.out _) hb⟩; clear hb))
  go_ret2
  exact ⟨rfl, HB2.out⟩
def rc1_T : Bool × List (List Nat × List Nat) := (true, [([], []), ([], []), ([1], [1]), ([2], [2]), ([3], [3]), ([0, 4], [0, 4]), ([5], [5]), ([6], [6]), ([6], [6]), ([7, 5, 0, 1, 2, 3, 4, 5, 6, 7], [7]), ([8, 9, 0, 1, 2, 3, 4, 5, 6, 7, 8, 9], [8])])
def rc1_B : List Nat := [0, 0, 2, 6, 14, 31, 63, 127, 127, 255, 1023]
theorem rc1_tab : rtab .any (opsOf Tryz.f33 1) = rc1_T := by kernel_rfl
theorem rc1_bits : waitsOk rc1_T.2 rc1_B = true := by kernel_rfl
set_option maxRecDepth 100000 in
set_option maxHeartbeats 16000000 in
theorem choice_and (A : Option Addr) (n c : Nat) (p0 p1 p2 p3 p4 p5 : ByteArray) (b : Bool) (m : Int) (s t i : ByteArray) (g kc : Nat) (o0 : Int) (b0 : Bool) (m0 : Int) (s0 t0 i0 : ByteArray) (K0 : Value) (o1 : Int) (b1 : Bool) (m1 : Int) (s1 t1 i1 : ByteArray) (K1 : Value) (m' : Int) (s' t' i' : ByteArray) (W0 : World) (hk : W0.heap[g]? = some (.cells #[.int .i64 o0, .bool b0, .int .i64 m0, .string s0, .string t0, .string i0, K0, .int .i64 o1, .bool b1, .int .i64 m1, .string s1, .string t1, .string i1, K1] 36 (0, 0))) (h0 : Says (.agg #[.slice A n c, .string p0, .string p1, .string p2, .string p3, .string p4, .string p5]) (.agg #[.int .i64 o0, .bool b0, .int .i64 m0, .string s0, .string t0, .string i0, K0]) ⟨1, false, m', s', t', i'⟩ 0 W0) (w : World) (hw : Below W0.heap.size W0 w) : Calls Tryz.prog 33 #[.agg #[.slice A n c, .string p0, .string p1, .string p2, .string p3, .string p4, .string p5], .agg #[.int .i64 23, .bool b, .int .i64 m, .string s, .string t, .string i, .slice (some ⟨g, 0, none⟩) 2 kc]] w (GivF w ⟨1, false, 0, ⟨#[]⟩, ⟨#[]⟩, ⟨#[]⟩⟩ 0) := by
  have HA : Aside0 (∀ W, Below w.heap.size w W → Calls Tryz.prog 44 #[.agg #[.slice A n c, .string p0, .string p1, .string p2, .string p3, .string p4, .string p5], .agg #[.int .i64 o0, .bool b0, .int .i64 m0, .string s0, .string t0, .string i0, K0]] W fun e w' => e = .returned (.tuple #[.bool false, .int .i64 0]) ∧ Below W.heap.size W w') := ⟨fun W hW => asked_tr A n c p0 p1 p2 p3 p4 p5 o0 b0 m0 s0 t0 i0 K0 false m' s' t' i' W0 h0 W (below_step hw hW)⟩
  have HX : Aside0 (XK w #[.slice A n c, .string p0, .string p1, .string p2, .string p3, .string p4, .string p5] #[.int .i64 23, .bool b, .int .i64 m, .string s, .string t, .string i, .slice (some ⟨g, 0, none⟩) 2 kc] g #[.int .i64 o0, .bool b0, .int .i64 m0, .string s0, .string t0, .string i0, K0, .int .i64 o1, .bool b1, .int .i64 m1, .string s1, .string t1, .string i1, K1] _) := ⟨XK.new w _ _ _ g (blk_below hk hw)⟩
  have HS0 : Aside0 (∀ W, XK w #[.slice A n c, .string p0, .string p1, .string p2, .string p3, .string p4, .string p5] #[.int .i64 23, .bool b, .int .i64 m, .string s, .string t, .string i, .slice (some ⟨g, 0, none⟩) 2 kc] g #[.int .i64 o0, .bool b0, .int .i64 m0, .string s0, .string t0, .string i0, K0, .int .i64 o1, .bool b1, .int .i64 m1, .string s1, .string t1, .string i1, K1] W → W.cell? ⟨w.heap.size, 0, none⟩ = some (.slice A n c) ∧ W.cell? ⟨w.heap.size, 1, none⟩ = some (.string p0) ∧ W.cell? ⟨w.heap.size, 2, none⟩ = some (.string p1) ∧ W.cell? ⟨w.heap.size, 3, none⟩ = some (.string p2) ∧ W.cell? ⟨w.heap.size, 4, none⟩ = some (.string p3) ∧ W.cell? ⟨w.heap.size, 5, none⟩ = some (.string p4) ∧ W.cell? ⟨w.heap.size, 6, none⟩ = some (.string p5) ∧ W.cell? ⟨w.heap.size + 1, 6, none⟩ = some (.slice (some ⟨g, 0, none⟩) 2 kc) ∧ W.cell? ⟨g, 0, none⟩ = some (.int .i64 o0) ∧ W.cell? ⟨g, 1, none⟩ = some (.bool b0) ∧ W.cell? ⟨g, 2, none⟩ = some (.int .i64 m0) ∧ W.cell? ⟨g, 3, none⟩ = some (.string s0) ∧ W.cell? ⟨g, 4, none⟩ = some (.string t0) ∧ W.cell? ⟨g, 5, none⟩ = some (.string i0) ∧ W.cell? ⟨g, 6, none⟩ = some (K0)) := ⟨fun W h => ⟨(blk_cell h.b0 0).trans rfl, (blk_cell h.b0 1).trans rfl, (blk_cell h.b0 2).trans rfl, (blk_cell h.b0 3).trans rfl, (blk_cell h.b0 4).trans rfl, (blk_cell h.b0 5).trans rfl, (blk_cell h.b0 6).trans rfl, (blk_cell h.b1 6).trans rfl, (blk_cell h.bk 0).trans rfl, (blk_cell h.bk 1).trans rfl, (blk_cell h.bk 2).trans rfl, (blk_cell h.bk 3).trans rfl, (blk_cell h.bk 4).trans rfl, (blk_cell h.bk 5).trans rfl, (blk_cell h.bk 6).trans rfl⟩⟩
  clear h0 hw hk
  unfold GivF
  go_enter Tryz.func33, Tryz.ntmps33
  go_upto_region 1 with (fail)
  generalize ((w.alloc (.cells #[.slice A n c, .string p0, .string p1, .string p2, .string p3, .string p4, .string p5] 70)).alloc (.cells #[.int .i64 23, .bool b, .int .i64 m, .string s, .string t, .string i, .slice (some ⟨g, 0, none⟩) 2 kc] 36)).alloc (.cells #[.int .i64 0, .bool false, .int .i64 0, .string ⟨#[]⟩, .string ⟨#[]⟩, .string ⟨#[]⟩, .slice none 0 0] 39) = w3 at HX ⊢
  replace HX : Aside0 (XK w #[.slice A n c, .string p0, .string p1, .string p2, .string p3, .string p4, .string p5] #[.int .i64 23, .bool b, .int .i64 m, .string s, .string t, .string i, .slice (some ⟨g, 0, none⟩) 2 kc] g #[.int .i64 o0, .bool b0, .int .i64 m0, .string s0, .string t0, .string i0, K0, .int .i64 o1, .bool b1, .int .i64 m1, .string s1, .string t1, .string i1, K1] w3.drew) := ⟨HX.out.step (below_drew1 (Below.refl _ _))⟩
  refine start_ (n := 11) (S := fun W => W.cell? ⟨w.heap.size, 0, none⟩ = some (.slice A n c) ∧ W.cell? ⟨w.heap.size, 1, none⟩ = some (.string p0) ∧ W.cell? ⟨w.heap.size, 2, none⟩ = some (.string p1) ∧ W.cell? ⟨w.heap.size, 3, none⟩ = some (.string p2) ∧ W.cell? ⟨w.heap.size, 4, none⟩ = some (.string p3) ∧ W.cell? ⟨w.heap.size, 5, none⟩ = some (.string p4) ∧ W.cell? ⟨w.heap.size, 6, none⟩ = some (.string p5) ∧ W.cell? ⟨w.heap.size + 1, 6, none⟩ = some (.slice (some ⟨g, 0, none⟩) 2 kc) ∧ W.cell? ⟨g, 0, none⟩ = some (.int .i64 o0) ∧ W.cell? ⟨g, 1, none⟩ = some (.bool b0) ∧ W.cell? ⟨g, 2, none⟩ = some (.int .i64 m0) ∧ W.cell? ⟨g, 3, none⟩ = some (.string s0) ∧ W.cell? ⟨g, 4, none⟩ = some (.string t0) ∧ W.cell? ⟨g, 5, none⟩ = some (.string i0) ∧ W.cell? ⟨g, 6, none⟩ = some (K0)) (ds := []) #[false, false, false, false, false, false, false, false, false, false, false] (by kernel_rfl) rfl rfl (HS0.out _ HX.out) (fun hHeld => ?_)
  refine with_tabW rc1_tab rc1_bits (fun HT_ HW_ => ?_)
  generalize w3.drew = wd at HX hHeld ⊢
  refine pS_ 1 11 (fa 11 2) HT_ ?_
  refine tS_ 0 10 (fa 11 3) HT_ HW_ hHeld ?_
  refine tS_ 2 12 (fa 11 7) HT_ HW_ hHeld ?_
  refine pS_ 3 13 (fa 11 15) HT_ ?_
  refine tS_ 4 14 (fa 11 31) HT_ HW_ hHeld ?_
  refine one_ (i := 5) (N := some 15) #[true, true, true, true, true, true, false, false, false, false, false] rfl rfl (one_of HT_.out (by kernel_rfl)) (by decide) (fun K hK => ?_)
  refine goes_ Tryz.func44 (by kernel_rfl) rfl #[.agg #[.slice A n c, .string p0, .string p1, .string p2, .string p3, .string p4, .string p5], .agg #[.int .i64 o0, .bool b0, .int .i64 m0, .string s0, .string t0, .string i0, K0]] (by rfl) rfl rfl gm_ ?_
  refine (HA.out _ HX.out.be).mono ?_
  rintro e w4 ⟨rfl, hb⟩
  refine ⟨_, rfl, ?_⟩
  replace HX := Aside0.mk (HX.out.step hb)
  clear hb
  refine hK.out _ _ (HS0.out _ HX.out) (fun hHeld => ?_)
  clear hK K
  refine norm_ (a' := ?_) ?_ ?_
  rotate_left
  · show Act.put _ (some 15) _ = _
    simp only [Act.put, List.setIfInBounds_toArray, List.set_cons_zero, List.set_cons_succ, i64_w, i32_w]
    rfl
  refine pS_ 6 9 (fa 11 127) HT_ ?_
  refine pS_ 7 16 (fa 11 255) HT_ ?_
  refine pS_ 8 17 (fa 11 511) HT_ ?_
  refine pS_ 9 6 (fa 11 1023) HT_ ?_
  refine pS_ 10 7 (fa 11 2047) HT_ ?_
  refine done_ (done_of HT_.out (by kernel_rfl)) ?_
  have y0 : w4.cell? ⟨w.heap.size + 1, 0, none⟩ = some (.int .i64 23) := (blk_cell HX.out.b1 0).trans rfl
  go_wp2_with (go_at_call 45; refine (back_tr _ _).mono ?_; rintro e w5 ⟨rfl, hb⟩; replace HX := Aside0.mk (HX.out.step hb); clear hb; obtain ⟨q0, q1, q2, q3, q4, q5, q6⟩ := cells7 HX.out.b2; obtain ⟨f0, f1, f2, f3, f4, f5, f6⟩ := froz7 HX.out.b2)
  (try simp only [Exit.inBlock, Exit.then])
  refine bodyPost_ret (results_row_tmp rfl _ _ (w.heap.size + 2) 39 _ (0, 0) _ rfl (set7_blk HX.out.b2 _ _ _ _ _ _ _) Tryz.underlying39 rfl (by kernel_rfl)) rfl ?_
  exact ⟨rfl, set7_below HX.out.be (by omega) _ _ _ _ _ _ _⟩
set_option maxRecDepth 100000 in
set_option maxHeartbeats 16000000 in
theorem expr_and (A : Option Addr) (n c : Nat) (p0 p1 p2 p3 p4 p5 : ByteArray) (b : Bool) (m : Int) (s t i : ByteArray) (g kc : Nat) (o0 : Int) (b0 : Bool) (m0 : Int) (s0 t0 i0 : ByteArray) (K0 : Value) (o1 : Int) (b1 : Bool) (m1 : Int) (s1 t1 i1 : ByteArray) (K1 : Value) (m' : Int) (s' t' i' : ByteArray) (W0 : World) (hk : W0.heap[g]? = some (.cells #[.int .i64 o0, .bool b0, .int .i64 m0, .string s0, .string t0, .string i0, K0, .int .i64 o1, .bool b1, .int .i64 m1, .string s1, .string t1, .string i1, K1] 36 (0, 0))) (h0 : Says (.agg #[.slice A n c, .string p0, .string p1, .string p2, .string p3, .string p4, .string p5]) (.agg #[.int .i64 o0, .bool b0, .int .i64 m0, .string s0, .string t0, .string i0, K0]) ⟨1, false, m', s', t', i'⟩ 0 W0) : Says (.agg #[.slice A n c, .string p0, .string p1, .string p2, .string p3, .string p4, .string p5]) (.agg #[.int .i64 23, .bool b, .int .i64 m, .string s, .string t, .string i, .slice (some ⟨g, 0, none⟩) 2 kc]) ⟨1, false, 0, ⟨#[]⟩, ⟨#[]⟩, ⟨#[]⟩⟩ 0 W0 := by
  intro w hw
  have HC : Aside0 (∀ W, Below w.heap.size w W → Calls Tryz.prog 33 #[.agg #[.slice A n c, .string p0, .string p1, .string p2, .string p3, .string p4, .string p5], .agg #[.int .i64 23, .bool b, .int .i64 m, .string s, .string t, .string i, .slice (some ⟨g, 0, none⟩) 2 kc]] W fun e w' => e = .returned (.tuple #[.agg #[.int .i64 1, .bool false, .int .i64 0, .string ⟨#[]⟩, .string ⟨#[]⟩, .string ⟨#[]⟩, .slice none 0 0], .int .i64 0]) ∧ Below W.heap.size W w') := ⟨fun W hW => choice_and A n c p0 p1 p2 p3 p4 p5 b m s t i g kc o0 b0 m0 s0 t0 i0 K0 o1 b1 m1 s1 t1 i1 K1 m' s' t' i' W0 hk h0 W (below_step hw hW)⟩
  have HX := Aside0.mk (XB.new w #[.slice A n c, .string p0, .string p1, .string p2, .string p3, .string p4, .string p5] #[.int .i64 23, .bool b, .int .i64 m, .string s, .string t, .string i, .slice (some ⟨g, 0, none⟩) 2 kc])
  clear h0 hk hw
  unfold GivF
  go_enter Tryz.func18, Tryz.ntmps18
  go_wp2_with (go_at_call 33; refine (HC.out _ HX.out.be).mono ?_; rintro e w1 ⟨rfl, hb⟩; have HX1 := Aside0.mk (HX.out.step hb); clear hb; obtain ⟨q0, q1, q2, q3, q4, q5, q6⟩ := cells7 HX1.out.b2; obtain ⟨f0, f1, f2, f3, f4, f5, f6⟩ := froz7 HX1.out.b2)
  (try simp only [Exit.inBlock, Exit.then])
  refine bodyPost_ret (results_row_tmp rfl _ _ (w.heap.size + 2) 39 _ (0, 0) _ rfl (set7_blk HX1.out.b2 _ _ _ _ _ _ _) Tryz.underlying39 rfl (by kernel_rfl)) rfl ?_
  exact ⟨rfl, set7_below HX1.out.be (by omega) _ _ _ _ _ _ _⟩
set_option maxRecDepth 100000 in
set_option maxHeartbeats 16000000 in
theorem Expr_calls (A : Option Addr) (n c : Nat) (p0 p1 p2 p3 p4 p5 : ByteArray) (o : Int) (b : Bool) (m : Int) (s t i : ByteArray) (K : Value) (r : Fl) (er : Int) (w : World) (h0 : Says (.agg #[.slice A n c, .string p0, .string p1, .string p2, .string p3, .string p4, .string p5]) (.agg #[.int .i64 o, .bool b, .int .i64 m, .string s, .string t, .string i, K]) r er w) : Calls Tryz.prog 8 #[.slice A n c, .agg #[.string p0, .string p1, .string p2, .string p3, .string p4, .string p5], .agg #[.int .i64 o, .bool b, .int .i64 m, .string s, .string t, .string i, K]] w (GivF w r er) := by
  have HC : Aside0 (∀ W, Below w.heap.size w W → Calls Tryz.prog 18 #[.agg #[.slice A n c, .string p0, .string p1, .string p2, .string p3, .string p4, .string p5], .agg #[.int .i64 o, .bool b, .int .i64 m, .string s, .string t, .string i, K]] W (GivF W r er)) := ⟨h0⟩
  clear h0
  unfold GivF
  go_enter Tryz.func8, Tryz.ntmps8
  go_wp2_with (go_at_call 18; refine (HC.out _ ?hB).mono ?_; (case hB => repeat (first | exact Below.refl _ _ | apply below_alloc)); rintro e w1 ⟨rfl, hb⟩; have HB : Aside0 (Below w.heap.size w w1) := ⟨below_step (by repeat (first | exact Below.refl _ _ | apply below_alloc)) hb⟩; have HZ : Aside0 (w1.heap[w.heap.size + 2]? = some zO) := ⟨by refine blk_below ?_ hb; exact bn3 _ _ _ _⟩; clear hb; obtain ⟨q0, q1, q2, q3, q4, q5, q6⟩ := cells7 HZ.out; obtain ⟨f0, f1, f2, f3, f4, f5, f6⟩ := froz7 HZ.out)
  (try simp only [Exit.inBlock, Exit.then])
  refine bodyPost_ret (results_row_tmp rfl _ _ (w.heap.size + 2) 39 _ (0, 0) _ rfl (set7_blk HZ.out _ _ _ _ _ _ _) Tryz.underlying39 rfl (by kernel_rfl)) rfl ?_
  exact ⟨rfl, set7_below HB.out (by omega) _ _ _ _ _ _ _⟩
end Go.Proofs.YtelibndkkokadaaGreat.EV
namespace Go.Proofs.YtelibndkkokadaaGreat.EV
open Go.RowKit Go.Proofs.YtelibndkkokadaaGreatW.PrintWords Go.Proofs.YtelibndkkokadaaGreatW.PrintLast Go.Proofs.YtelibndkkokadaaGreat.HandV Go.Proofs.YtelibndkkokadaaGreatW.PrintMore
open Go.Proofs.YtelibndkkokadaaGreat.GB
attribute [local go_sem] max2_int min2_int max_two min_two max_three min_three max_four min_four   -- for this text's walks alone
set_option linter.unusedVariables false
set_option linter.unusedSimpArgs false
-- IMPORT .EV6
-- IMPORT .Sqz
-- IMPORT Derived.Deep.RegionWith
-- IMPORT Derived.Deep.CutRange
/-- The boxes of known. -/
structure KS (w W : World) : Prop where
  b1 : W.heap[w.heap.size]? = some (.cells #[.int .i64 1, .bool false, .int .i64 0, .string ⟨#[]⟩, .string ⟨#[]⟩, .string ⟨#[]⟩, .slice none 0 0] 36 (0, 0))
  bk : W.heap[w.heap.size + 1]? = some (.cells #[.int .i64 2, .bool false, .int .i64 1, .string ⟨#[]⟩, .string ⟨#[]⟩, .string ⟨#[]⟩, .slice none 0 0, .int .i64 1, .bool true, .int .i64 0, .string ⟨#[]⟩, .string ⟨#[]⟩, .string ⟨#[]⟩, .slice none 0 0] 36 (0, 0))
  b2 : W.heap[w.heap.size + 2]? = some (.cells #[.int .i64 14, .bool false, .int .i64 0, .string ⟨#[]⟩, .string ⟨#[]⟩, .string ⟨#[]⟩, .slice (some ⟨w.heap.size + 1, 0, none⟩) 2 2] 36 (0, 0))
  be : Below w.heap.size w W
theorem KS.step {w W W' : World} (h : KS w W) (hb : Below W.heap.size W W') : KS w W' := ⟨blk_below h.b1 hb, blk_below h.bk hb, blk_below h.b2 hb, below_step h.be hb⟩
theorem KS.alloc {w W : World} (h : KS w W) (o : Obj) : KS w (W.alloc o) := h.step (below_alloc (Below.refl _ _) o)
theorem says_bad {w W : World} (h : KS w W) : Says (.agg #[.slice none 0 0, .string ⟨#[]⟩, .string ⟨#[]⟩, .string ⟨#[]⟩, .string ⟨#[]⟩, .string ⟨#[]⟩, .string ⟨#[]⟩]) (.agg #[.int .i64 14, .bool false, .int .i64 0, .string ⟨#[]⟩, .string ⟨#[]⟩, .string ⟨#[]⟩, .slice (some ⟨w.heap.size + 1, 0, none⟩) 2 2]) ⟨0, false, 0, ⟨#[]⟩, ⟨#[]⟩, ⟨#[]⟩⟩ 16 W :=
  expr_two none 0 0 ⟨#[]⟩ ⟨#[]⟩ ⟨#[]⟩ ⟨#[]⟩ ⟨#[]⟩ ⟨#[]⟩ 14 false 0 ⟨#[]⟩ ⟨#[]⟩ ⟨#[]⟩ (w.heap.size + 1) 2 2 false 1 ⟨#[]⟩ ⟨#[]⟩ ⟨#[]⟩ (.slice none 0 0) 1 true 0 ⟨#[]⟩ ⟨#[]⟩ ⟨#[]⟩ (.slice none 0 0) ⟨2, false, 1, ⟨#[]⟩, ⟨#[]⟩, ⟨#[]⟩⟩ ⟨1, true, 0, ⟨#[]⟩, ⟨#[]⟩, ⟨#[]⟩⟩ ⟨0, false, 0, ⟨#[]⟩, ⟨#[]⟩, ⟨#[]⟩⟩ 16 (by decide) (by decide) W h.bk
    (expr_leaf none 0 0 ⟨#[]⟩ ⟨#[]⟩ ⟨#[]⟩ ⟨#[]⟩ ⟨#[]⟩ ⟨#[]⟩ 2 false 1 ⟨#[]⟩ ⟨#[]⟩ ⟨#[]⟩ (.slice none 0 0) ⟨2, false, 1, ⟨#[]⟩, ⟨#[]⟩, ⟨#[]⟩⟩ (by decide) (fun W => leaf_long none 0 0 ⟨#[]⟩ ⟨#[]⟩ ⟨#[]⟩ ⟨#[]⟩ ⟨#[]⟩ ⟨#[]⟩ false 1 ⟨#[]⟩ ⟨#[]⟩ ⟨#[]⟩ (.slice none 0 0) W) _)
    (expr_leaf none 0 0 ⟨#[]⟩ ⟨#[]⟩ ⟨#[]⟩ ⟨#[]⟩ ⟨#[]⟩ ⟨#[]⟩ 1 true 0 ⟨#[]⟩ ⟨#[]⟩ ⟨#[]⟩ (.slice none 0 0) ⟨1, true, 0, ⟨#[]⟩, ⟨#[]⟩, ⟨#[]⟩⟩ (by decide) (fun W => leaf_bool none 0 0 ⟨#[]⟩ ⟨#[]⟩ ⟨#[]⟩ ⟨#[]⟩ ⟨#[]⟩ ⟨#[]⟩ true 0 ⟨#[]⟩ ⟨#[]⟩ ⟨#[]⟩ (.slice none 0 0) W) _)
    (double_type none 0 0 ⟨#[]⟩ ⟨#[]⟩ ⟨#[]⟩ ⟨#[]⟩ ⟨#[]⟩ ⟨#[]⟩ false 1 ⟨#[]⟩ ⟨#[]⟩ ⟨#[]⟩ true 0 ⟨#[]⟩ ⟨#[]⟩ ⟨#[]⟩ W)
set_option maxRecDepth 100000 in
set_option maxHeartbeats 16000000 in
theorem known13_calls (w : World) : Calls Tryz.prog 5 #[] w fun e w' => e = .returned (.bool true) ∧ Below w.heap.size w w' := by
  have HX : Aside0 (KS w (((w.alloc (.cells #[.int .i64 1, .bool false, .int .i64 0, .string ⟨#[]⟩, .string ⟨#[]⟩, .string ⟨#[]⟩, .slice none 0 0] 36)).alloc (.cells #[.int .i64 2, .bool false, .int .i64 1, .string ⟨#[]⟩, .string ⟨#[]⟩, .string ⟨#[]⟩, .slice none 0 0, .int .i64 1, .bool true, .int .i64 0, .string ⟨#[]⟩, .string ⟨#[]⟩, .string ⟨#[]⟩, .slice none 0 0] 36)).alloc (.cells #[.int .i64 14, .bool false, .int .i64 0, .string ⟨#[]⟩, .string ⟨#[]⟩, .string ⟨#[]⟩, .slice (some ⟨w.heap.size + 1, 0, none⟩) 2 2] 36))) := ⟨⟨blk_alloc (blk_alloc (blk_new _ _) _) _, blk_alloc (bn2 _ _ _) _, bn3 _ _ _ _, below_alloc (below_alloc (below_alloc (Below.refl _ _) _) _) _⟩⟩
  go_enter Tryz.func5, Tryz.ntmps5
  go_upto_region 3 with (fail)
  generalize ((w.alloc (.cells #[.int .i64 1, .bool false, .int .i64 0, .string ⟨#[]⟩, .string ⟨#[]⟩, .string ⟨#[]⟩, .slice none 0 0] 36)).alloc (.cells #[.int .i64 2, .bool false, .int .i64 1, .string ⟨#[]⟩, .string ⟨#[]⟩, .string ⟨#[]⟩, .slice none 0 0, .int .i64 1, .bool true, .int .i64 0, .string ⟨#[]⟩, .string ⟨#[]⟩, .string ⟨#[]⟩, .slice none 0 0] 36)).alloc (.cells #[.int .i64 14, .bool false, .int .i64 0, .string ⟨#[]⟩, .string ⟨#[]⟩, .string ⟨#[]⟩, .slice (some ⟨w.heap.size + 1, 0, none⟩) 2 2] 36) = w3 at HX ⊢
  obtain ⟨q0, q1, q2, q3, q4, q5, q6⟩ := cells7 HX.out.b1
  obtain ⟨r0, r1, r2, r3, r4, r5, r6⟩ := cells7 HX.out.b2
  have HC1 : Aside0 (∀ W g, W.heap[g]? = some (.cells #[.int .i64 1, .bool false, .int .i64 0, .string ⟨#[]⟩, .string ⟨#[]⟩, .string ⟨#[]⟩, .slice none 0 0, .int .i64 14, .bool false, .int .i64 0, .string ⟨#[]⟩, .string ⟨#[]⟩, .string ⟨#[]⟩, .slice (some ⟨w.heap.size + 1, 0, none⟩) 2 2] 36 (0, 0)) → Calls Tryz.prog 8 #[.slice none 0 0, .agg #[.string ⟨#[]⟩, .string ⟨#[]⟩, .string ⟨#[]⟩, .string ⟨#[]⟩, .string ⟨#[]⟩, .string ⟨#[]⟩], .agg #[.int .i64 23, .bool false, .int .i64 0, .string ⟨#[]⟩, .string ⟨#[]⟩, .string ⟨#[]⟩, .slice (some ⟨g, 0, none⟩) 2 2]] W fun e w' => e = .returned (.tuple #[.agg #[.int .i64 1, .bool false, .int .i64 0, .string ⟨#[]⟩, .string ⟨#[]⟩, .string ⟨#[]⟩, .slice none 0 0], .int .i64 0]) ∧ Below W.heap.size W w') := ⟨fun W g hk => Expr_calls none 0 0 ⟨#[]⟩ ⟨#[]⟩ ⟨#[]⟩ ⟨#[]⟩ ⟨#[]⟩ ⟨#[]⟩ 23 false 0 ⟨#[]⟩ ⟨#[]⟩ ⟨#[]⟩ (.slice (some ⟨g, 0, none⟩) 2 2) ⟨1, false, 0, ⟨#[]⟩, ⟨#[]⟩, ⟨#[]⟩⟩ 0 W (expr_and none 0 0 ⟨#[]⟩ ⟨#[]⟩ ⟨#[]⟩ ⟨#[]⟩ ⟨#[]⟩ ⟨#[]⟩ false 0 ⟨#[]⟩ ⟨#[]⟩ ⟨#[]⟩ g 2 1 false 0 ⟨#[]⟩ ⟨#[]⟩ ⟨#[]⟩ (.slice none 0 0) 14 false 0 ⟨#[]⟩ ⟨#[]⟩ ⟨#[]⟩ (.slice (some ⟨w.heap.size + 1, 0, none⟩) 2 2) 0 ⟨#[]⟩ ⟨#[]⟩ ⟨#[]⟩ W hk (expr_leaf none 0 0 ⟨#[]⟩ ⟨#[]⟩ ⟨#[]⟩ ⟨#[]⟩ ⟨#[]⟩ ⟨#[]⟩ 1 false 0 ⟨#[]⟩ ⟨#[]⟩ ⟨#[]⟩ (.slice none 0 0) ⟨1, false, 0, ⟨#[]⟩, ⟨#[]⟩, ⟨#[]⟩⟩ (by decide) (fun W => leaf_bool none 0 0 ⟨#[]⟩ ⟨#[]⟩ ⟨#[]⟩ ⟨#[]⟩ ⟨#[]⟩ ⟨#[]⟩ false 0 ⟨#[]⟩ ⟨#[]⟩ ⟨#[]⟩ (.slice none 0 0) W) _))⟩
  have HC2 : Aside0 (∀ W, KS w W → Calls Tryz.prog 8 #[.slice none 0 0, .agg #[.string ⟨#[]⟩, .string ⟨#[]⟩, .string ⟨#[]⟩, .string ⟨#[]⟩, .string ⟨#[]⟩, .string ⟨#[]⟩], .agg #[.int .i64 14, .bool false, .int .i64 0, .string ⟨#[]⟩, .string ⟨#[]⟩, .string ⟨#[]⟩, .slice (some ⟨w.heap.size + 1, 0, none⟩) 2 2]] W fun e w' => e = .returned (.tuple #[.agg #[.int .i64 0, .bool false, .int .i64 0, .string ⟨#[]⟩, .string ⟨#[]⟩, .string ⟨#[]⟩, .slice none 0 0], .int .i64 16]) ∧ Below W.heap.size W w') := ⟨fun W h => Expr_calls none 0 0 ⟨#[]⟩ ⟨#[]⟩ ⟨#[]⟩ ⟨#[]⟩ ⟨#[]⟩ ⟨#[]⟩ 14 false 0 ⟨#[]⟩ ⟨#[]⟩ ⟨#[]⟩ (.slice (some ⟨w.heap.size + 1, 0, none⟩) 2 2) ⟨0, false, 0, ⟨#[]⟩, ⟨#[]⟩, ⟨#[]⟩⟩ 16 W (says_bad h)⟩
  go_upto_region 4 with (go_at_call 8; refine (HC1.out _ _ (blk_new _ _)).mono ?_; rintro e w4 ⟨rfl, hb⟩; have HX4 := Aside0.mk ((HX.out.alloc _).step hb); clear hb q0 q1 q2 q3 q4 q5 q6 r0 r1 r2 r3 r4 r5 r6)
  have HX5 : Aside0 (KS w (w4.alloc (.cells #[.int .i64 1, .bool false, .int .i64 0, .string ⟨#[]⟩, .string ⟨#[]⟩, .string ⟨#[]⟩, .slice none 0 0] 39))) := ⟨HX4.out.alloc _⟩
  have H3 : Aside0 ((w4.alloc (.cells #[.int .i64 1, .bool false, .int .i64 0, .string ⟨#[]⟩, .string ⟨#[]⟩, .string ⟨#[]⟩, .slice none 0 0] 39)).heap[w4.heap.size]? = some (.cells #[.int .i64 1, .bool false, .int .i64 0, .string ⟨#[]⟩, .string ⟨#[]⟩, .string ⟨#[]⟩, .slice none 0 0] 39 (0, 0))) := ⟨blk_new _ _⟩
  generalize w4.alloc (.cells #[.int .i64 1, .bool false, .int .i64 0, .string ⟨#[]⟩, .string ⟨#[]⟩, .string ⟨#[]⟩, .slice none 0 0] 39) = w5 at HX5 H3 ⊢
  generalize w4.heap.size = g3 at H3 ⊢
  clear HX4 HX HC1
  obtain ⟨r0, r1, r2, r3, r4, r5, r6⟩ := cells7 HX5.out.b2
  go_wp2_with (go_at_call 8; refine (HC2.out _ HX5.out).mono ?_; rintro e w6 ⟨rfl, hb⟩; have HB6 : Aside0 (Below w.heap.size w w6) := ⟨below_step HX5.out.be hb⟩; have H36 := blk_below H3.out hb; have y0 : ∀ o, (w6.alloc o).cell? ⟨g3, 0, none⟩ = some (.int .i64 1) := fun o => (blk_cell (blk_alloc H36 o) 0).trans rfl; have y1 : ∀ o, (w6.alloc o).cell? ⟨g3, 1, none⟩ = some (.bool false) := fun o => (blk_cell (blk_alloc H36 o) 1).trans rfl; clear hb H36 r0 r1 r2 r3 r4 r5 r6)
  go_ret
  exact ⟨rfl, below_alloc HB6.out _⟩
end Go.Proofs.YtelibndkkokadaaGreat.EV
