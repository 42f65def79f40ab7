import Derived.Test.YtelibndkkokadaaGB0
import Derived.StillTailTactics
import Derived.Outline
import Derived.Laws.ResultCell
import Derived.Laws.Rows
namespace Go.Proofs.Ytelibndkkokadaa.EV
open Go.RowKit Go.Proofs.YtelibndkkokadaaW.PrintWords Go.Proofs.YtelibndkkokadaaW.PrintLast Go.Proofs.Ytelibndkkokadaa.HandV Go.Proofs.YtelibndkkokadaaW.PrintMore
open Go.Proofs.Ytelibndkkokadaa.GB
attribute [local go_sem] max2_int min2_int max_two min_two max_three min_three max_four min_four   -- for this text's walks alone
set_option linter.unusedVariables false
set_option linter.unusedSimpArgs false
-- IMPORT Derived.StillTailTactics
-- IMPORT Derived.Outline
-- IMPORT Derived.Laws.ResultCell
-- IMPORT Derived.Laws.Rows
theorem setCell_heap (w : World) (b o : Nat) (v : Value) (cur : List Value) (e : TypeId) (fz : Nat × Nat) (h : w.heap[b]? = some (.cells cur.toArray e fz)) :
    (w.setCell ⟨b, o, none⟩ v).heap[b]? = some (.cells (cur.set o v).toArray e fz) := by
  have hlt : b < w.heap.size := (Array.getElem?_eq_some_iff.1 h).1
  have hv : w.heap[b] = .cells cur.toArray e fz := (Array.getElem?_eq_some_iff.1 h).2
  unfold World.setCell
  rw [Array.getElem?_eq_getElem (by simpa using hlt), Array.getElem_modify]
  simp [hv]
theorem setCells_heap (b : Nat) (e : TypeId) (fz : Nat × Nat) : ∀ (vs : List Value) (o : Nat) (w : World) (cur : List Value), w.heap[b]? = some (.cells cur.toArray e fz) → o + vs.length ≤ cur.length →
    (w.setCells b o vs).heap[b]? = some (.cells (cur.take o ++ vs ++ cur.drop (o + vs.length)).toArray e fz)
  | [], o, w, cur, h, _ => by simpa [World.setCells] using h
  | v :: r, o, w, cur, h, hl => by
    have hl2 : o + (r.length + 1) ≤ cur.length := by simpa using hl
    have h1 := setCells_heap b e fz r (o + 1) _ _ (setCell_heap w b o v cur e fz h) (by rw [List.length_set]; omega)
    rw [World.setCells, h1]
    have e1 : (cur.set o v).take (o + 1) = cur.take o ++ [v] := by
      rw [List.take_succ_eq_append_getElem (by rw [List.length_set]; omega), List.take_set_of_le (Nat.le_refl o)]
      simp
    have e2 : (cur.set o v).drop (o + 1 + r.length) = cur.drop (o + (v :: r).length) := by
      rw [List.drop_set_of_lt (by omega), List.length_cons, Nat.add_assoc, Nat.add_comm 1]
    rw [e1, e2]
    simp
theorem below_cells {B : Nat} (b : Nat) (hb : B ≤ b) : ∀ (vs : List Value) (o : Nat) (w : World), Below B w (w.setCells b o vs)
  | [], _, w => Below.refl _ w
  | v :: vs, o, w => ((Below.refl B w).setCell (p := ⟨b, o, none⟩) hb v).trans (below_cells b hb vs (o + 1) _)
theorem lt_of_heap {w : World} {k : Nat} {o : Obj} (h : w.heap[k]? = some o) : k < w.heap.size := (Array.getElem?_eq_some_iff.1 h).1
theorem store_of {v : Value} (h : v.oneCell' = true) : ∀ (a : Addr) (m : Mode) (w : World), (store a v m).run Try.prog w = stored Try.prog w a v m := fun a m w => run_store Try.prog w a v m h
/-- The box of a result, not yet filled. -/
def Box (w : World) (b : Nat) : Prop := w.heap[b]? = some (.cells #[.int .i64 0, .bool false, .int .i64 0, .string ⟨#[]⟩, .string ⟨#[]⟩, .string ⟨#[]⟩, .slice none 0 0] 55 (0, 0))
theorem Box.mono {w w' : World} {b : Nat} (h : Box w b) (hb : Below w.heap.size w w') : Box w' b := (hb.block b (lt_of_heap h)).trans h
theorem Box.c0 {w : World} {b : Nat} (h : Box w b) : w.cell? ⟨b, 0, none⟩ = some (.int .i64 0) := by unfold World.cell?; rw [h]; rfl
theorem Box.c1 {w : World} {b : Nat} (h : Box w b) : w.cell? ⟨b, 1, none⟩ = some (.bool false) := by unfold World.cell?; rw [h]; rfl
theorem Box.c2 {w : World} {b : Nat} (h : Box w b) : w.cell? ⟨b, 2, none⟩ = some (.int .i64 0) := by unfold World.cell?; rw [h]; rfl
theorem Box.c3 {w : World} {b : Nat} (h : Box w b) : w.cell? ⟨b, 3, none⟩ = some (.string ⟨#[]⟩) := by unfold World.cell?; rw [h]; rfl
theorem Box.c4 {w : World} {b : Nat} (h : Box w b) : w.cell? ⟨b, 4, none⟩ = some (.string ⟨#[]⟩) := by unfold World.cell?; rw [h]; rfl
theorem Box.c5 {w : World} {b : Nat} (h : Box w b) : w.cell? ⟨b, 5, none⟩ = some (.string ⟨#[]⟩) := by unfold World.cell?; rw [h]; rfl
theorem Box.c6 {w : World} {b : Nat} (h : Box w b) : w.cell? ⟨b, 6, none⟩ = some (.slice none 0 0) := by unfold World.cell?; rw [h]; rfl
theorem Box.fr {w : World} {b : Nat} (h : Box w b) : ∀ o, w.frozen? ⟨b, o, none⟩ = false := by intro o; unfold World.frozen?; rw [h]; simp
theorem Box.done {wr : World} {b : Nat} (h : Box wr b) (c0 c1 c2 c3 c4 c5 c6 : Value) :
    (wr.setCells b 0 [c0, c1, c2, c3, c4, c5, c6]).heap[b]? = some (.cells #[c0, c1, c2, c3, c4, c5, c6] 55 (0, 0)) := by
  have := setCells_heap b 55 (0, 0) [c0, c1, c2, c3, c4, c5, c6] 0 wr _ h (by show 0 + 7 ≤ 7; omega)
  simpa using this
theorem blk_at (W : World) (o : Obj) (k : Nat) (h : W.heap.size = k) : (W.alloc o).heap[k]? = some o := h ▸ blk_new W o
theorem results_row_tmp {P : Program} {fn : Func} {p u : Tmp} {ty : TypeId} (h : fn.results = #[.cell p ty, .tmp u]) (tmps : Array Value) (w : World) (g : Nat) (t : TypeId) (cs : Array Value) (fr : Nat × Nat) (d : TypeDesc)
    (hp : tmps.getD p undef = .pointer (some ⟨g, 0, none⟩)) (hg : w.heap[g]? = some (.cells cs t fr))
    (hu : P.underlying ty = some d) (hd : (match d with | .struct _ | .array _ _ => true | _ => false) = true) (hi : (P.info? ty).map (·.size) = some cs.size) :
    (results fn tmps).run P w = .ok (.tuple #[.agg cs, tmps.getD u undef]) w := by
  rw [results_cell_tmp h, hp]
  simp [asAddr, run_loadVar_row w g t ty cs fr d hg hu hd hi, Result.andThen]
theorem ta_truth (x : Value) (w : World) : Sem.run Try.prog (Instr.typeAssert (.iface 163 x) 20 163 true) w = .ok (.tuple #[x, .bool true]) w := by simp [Instr.typeAssert, go_sem]
theorem ta_truth_number (x : Value) (w : World) : Sem.run Try.prog (Instr.typeAssert (.iface 171 x) 20 163 true) w = .ok (.tuple #[.bool false, .bool false]) w := by simp [Instr.typeAssert, go_sem]
theorem ta_truth_words (x : Value) (w : World) : Sem.run Try.prog (Instr.typeAssert (.iface 167 x) 20 163 true) w = .ok (.tuple #[.bool false, .bool false]) w := by simp [Instr.typeAssert, go_sem]
theorem ta_truth_uid (x : Value) (w : World) : Sem.run Try.prog (Instr.typeAssert (.iface 192 x) 20 163 true) w = .ok (.tuple #[.bool false, .bool false]) w := by simp [Instr.typeAssert, go_sem]
theorem ta_truth_set (x : Value) (w : World) : Sem.run Try.prog (Instr.typeAssert (.iface 193 x) 20 163 true) w = .ok (.tuple #[.bool false, .bool false]) w := by simp [Instr.typeAssert, go_sem]
theorem ta_truth_nil (w : World) : Sem.run Try.prog (Instr.typeAssert .nilIface 20 163 true) w = .ok (.tuple #[.bool false, .bool false]) w := by simp [Instr.typeAssert, go_sem]
theorem ta_number (x : Value) (w : World) : Sem.run Try.prog (Instr.typeAssert (.iface 171 x) 20 171 true) w = .ok (.tuple #[x, .bool true]) w := by simp [Instr.typeAssert, go_sem]
theorem ta_number_truth (x : Value) (w : World) : Sem.run Try.prog (Instr.typeAssert (.iface 163 x) 20 171 true) w = .ok (.tuple #[.int .i64 0, .bool false]) w := by simp [Instr.typeAssert, go_sem]
theorem ta_number_words (x : Value) (w : World) : Sem.run Try.prog (Instr.typeAssert (.iface 167 x) 20 171 true) w = .ok (.tuple #[.int .i64 0, .bool false]) w := by simp [Instr.typeAssert, go_sem]
theorem ta_number_uid (x : Value) (w : World) : Sem.run Try.prog (Instr.typeAssert (.iface 192 x) 20 171 true) w = .ok (.tuple #[.int .i64 0, .bool false]) w := by simp [Instr.typeAssert, go_sem]
theorem ta_number_set (x : Value) (w : World) : Sem.run Try.prog (Instr.typeAssert (.iface 193 x) 20 171 true) w = .ok (.tuple #[.int .i64 0, .bool false]) w := by simp [Instr.typeAssert, go_sem]
theorem ta_number_nil (w : World) : Sem.run Try.prog (Instr.typeAssert .nilIface 20 171 true) w = .ok (.tuple #[.int .i64 0, .bool false]) w := by simp [Instr.typeAssert, go_sem]
theorem ta_words (x : Value) (w : World) : Sem.run Try.prog (Instr.typeAssert (.iface 167 x) 20 167 true) w = .ok (.tuple #[x, .bool true]) w := by simp [Instr.typeAssert, go_sem]
theorem ta_words_truth (x : Value) (w : World) : Sem.run Try.prog (Instr.typeAssert (.iface 163 x) 20 167 true) w = .ok (.tuple #[.string ⟨#[]⟩, .bool false]) w := by simp [Instr.typeAssert, go_sem]
theorem ta_words_number (x : Value) (w : World) : Sem.run Try.prog (Instr.typeAssert (.iface 171 x) 20 167 true) w = .ok (.tuple #[.string ⟨#[]⟩, .bool false]) w := by simp [Instr.typeAssert, go_sem]
theorem ta_words_uid (x : Value) (w : World) : Sem.run Try.prog (Instr.typeAssert (.iface 192 x) 20 167 true) w = .ok (.tuple #[.string ⟨#[]⟩, .bool false]) w := by simp [Instr.typeAssert, go_sem]
theorem ta_words_set (x : Value) (w : World) : Sem.run Try.prog (Instr.typeAssert (.iface 193 x) 20 167 true) w = .ok (.tuple #[.string ⟨#[]⟩, .bool false]) w := by simp [Instr.typeAssert, go_sem]
theorem ta_words_nil (w : World) : Sem.run Try.prog (Instr.typeAssert .nilIface 20 167 true) w = .ok (.tuple #[.string ⟨#[]⟩, .bool false]) w := by simp [Instr.typeAssert, go_sem]
theorem ta_uid (x : Value) (w : World) : Sem.run Try.prog (Instr.typeAssert (.iface 192 x) 20 192 true) w = .ok (.tuple #[x, .bool true]) w := by simp [Instr.typeAssert, go_sem]
theorem ta_uid_truth (x : Value) (w : World) : Sem.run Try.prog (Instr.typeAssert (.iface 163 x) 20 192 true) w = .ok (.tuple #[.agg #[.string ⟨#[]⟩, .string ⟨#[]⟩], .bool false]) w := by simp [Instr.typeAssert, go_sem]
theorem ta_uid_number (x : Value) (w : World) : Sem.run Try.prog (Instr.typeAssert (.iface 171 x) 20 192 true) w = .ok (.tuple #[.agg #[.string ⟨#[]⟩, .string ⟨#[]⟩], .bool false]) w := by simp [Instr.typeAssert, go_sem]
theorem ta_uid_words (x : Value) (w : World) : Sem.run Try.prog (Instr.typeAssert (.iface 167 x) 20 192 true) w = .ok (.tuple #[.agg #[.string ⟨#[]⟩, .string ⟨#[]⟩], .bool false]) w := by simp [Instr.typeAssert, go_sem]
theorem ta_uid_set (x : Value) (w : World) : Sem.run Try.prog (Instr.typeAssert (.iface 193 x) 20 192 true) w = .ok (.tuple #[.agg #[.string ⟨#[]⟩, .string ⟨#[]⟩], .bool false]) w := by simp [Instr.typeAssert, go_sem]
theorem ta_uid_nil (w : World) : Sem.run Try.prog (Instr.typeAssert .nilIface 20 192 true) w = .ok (.tuple #[.agg #[.string ⟨#[]⟩, .string ⟨#[]⟩], .bool false]) w := by simp [Instr.typeAssert, go_sem]
set_option maxRecDepth 100000 in
set_option maxHeartbeats 4000000 in
theorem back_nu (n : Int) (w : World) : Calls Try.prog 115 #[.iface 171 (.int .i64 n)] w fun e w' => e = .returned (.agg #[.int .i64 2, .bool false, .int .i64 n, .string ⟨#[]⟩, .string ⟨#[]⟩, .string ⟨#[]⟩, .slice none 0 0]) ∧ Below w.heap.size w w' := by
  have h1 := ta_truth_number (.int .i64 n)
  have h2 := ta_number (.int .i64 n)
  go_enter Try.func115, Try.ntmps115
  go_wp2
  (try simp only [Exit.inBlock, Exit.then])
  refine bodyPost_ret (results_cell_row rfl _ _ w.heap.size 55 _ (0, 0) _ rfl (blk_new _ _) Try.underlying55 rfl (by kernel_rfl)) rfl ?_
  exact ⟨rfl, below_alloc (Below.refl _ _) _⟩
set_option maxRecDepth 100000 in
set_option maxHeartbeats 4000000 in
theorem back_tr (b : Bool) (w : World) : Calls Try.prog 115 #[.iface 163 (.bool b)] w fun e w' => e = .returned (.agg #[.int .i64 1, .bool b, .int .i64 0, .string ⟨#[]⟩, .string ⟨#[]⟩, .string ⟨#[]⟩, .slice none 0 0]) ∧ Below w.heap.size w w' := by
  have h1 := ta_truth (.bool b)
  go_enter Try.func115, Try.ntmps115
  go_wp2
  (try simp only [Exit.inBlock, Exit.then])
  refine bodyPost_ret (results_cell_row rfl _ _ w.heap.size 55 _ (0, 0) _ rfl (blk_new _ _) Try.underlying55 rfl (by kernel_rfl)) rfl ?_
  exact ⟨rfl, below_alloc (Below.refl _ _) _⟩
set_option maxRecDepth 100000 in
set_option maxHeartbeats 4000000 in
theorem told_err (x : Value) (n : Int) (hn : n ≠ 0) (w : World) : Calls Try.prog 116 #[x, .int .i64 n] w fun e w' => e = .returned (.tuple #[.agg #[.int .i64 0, .bool false, .int .i64 0, .string ⟨#[]⟩, .string ⟨#[]⟩, .string ⟨#[]⟩, .slice none 0 0], .int .i64 n]) ∧ Below w.heap.size w w' := by
  have h1 : (n != 0) = true := bne_iff_ne.mpr hn
  go_enter Try.func116, Try.ntmps116
  go_wp2
  (try simp only [Exit.inBlock, Exit.then])
  refine bodyPost_ret (results_row_tmp rfl _ _ w.heap.size 55 _ (0, 0) _ rfl (blk_new _ _) Try.underlying55 rfl (by kernel_rfl)) rfl ?_
  exact ⟨rfl, below_alloc (Below.refl _ _) _⟩

set_option maxRecDepth 100000 in
set_option maxHeartbeats 8000000 in
theorem of_1 (b : Bool) (n : Int) (s t i : ByteArray) (A : Option Addr) (l c : Nat) (w : World) : Calls Try.prog 117 #[.agg #[.int .i64 1, .bool b, .int .i64 n, .string s, .string t, .string i, .slice A l c]] w fun e w' => e = .returned (.iface 163 (.bool b)) ∧ Below w.heap.size w w' := by
  go_enter Try.func117, Try.ntmps117
  go_wp2
  go_ret
  exact ⟨rfl, below_alloc (Below.refl _ _) _⟩
set_option maxRecDepth 100000 in
set_option maxHeartbeats 8000000 in
theorem of_2 (b : Bool) (n : Int) (s t i : ByteArray) (A : Option Addr) (l c : Nat) (w : World) : Calls Try.prog 117 #[.agg #[.int .i64 2, .bool b, .int .i64 n, .string s, .string t, .string i, .slice A l c]] w fun e w' => e = .returned (.iface 171 (.int .i64 n)) ∧ Below w.heap.size w w' := by
  go_enter Try.func117, Try.ntmps117
  go_wp2
  go_ret
  exact ⟨rfl, below_alloc (Below.refl _ _) _⟩
set_option maxRecDepth 100000 in
set_option maxHeartbeats 8000000 in
theorem of_3 (b : Bool) (n : Int) (s t i : ByteArray) (A : Option Addr) (l c : Nat) (w : World) : Calls Try.prog 117 #[.agg #[.int .i64 3, .bool b, .int .i64 n, .string s, .string t, .string i, .slice A l c]] w fun e w' => e = .returned (.iface 167 (.string s)) ∧ Below w.heap.size w w' := by
  go_enter Try.func117, Try.ntmps117
  go_wp2
  go_ret
  exact ⟨rfl, below_alloc (Below.refl _ _) _⟩
set_option maxRecDepth 100000 in
set_option maxHeartbeats 8000000 in
theorem of_4 (b : Bool) (n : Int) (s t i : ByteArray) (A : Option Addr) (l c : Nat) (w : World) : Calls Try.prog 117 #[.agg #[.int .i64 4, .bool b, .int .i64 n, .string s, .string t, .string i, .slice A l c]] w fun e w' => e = .returned (.iface 192 (.agg #[.string t, .string i])) ∧ Below w.heap.size w w' := by
  go_enter Try.func117, Try.ntmps117
  go_wp2
  go_ret
  exact ⟨rfl, below_alloc (Below.refl _ _) _⟩
set_option maxRecDepth 100000 in
set_option maxHeartbeats 8000000 in
theorem of_5 (b : Bool) (n : Int) (s t i : ByteArray) (A : Option Addr) (l c : Nat) (w : World) : Calls Try.prog 117 #[.agg #[.int .i64 5, .bool b, .int .i64 n, .string s, .string t, .string i, .slice A l c]] w fun e w' => e = .returned (.iface 193 (.slice A l c)) ∧ Below w.heap.size w w' := by
  go_enter Try.func117, Try.ntmps117
  go_wp2
  go_ret
  exact ⟨rfl, below_alloc (Below.refl _ _) _⟩
set_option maxRecDepth 100000 in
set_option maxHeartbeats 8000000 in
theorem of_0 (k : Int) (h1 : k ≠ 1) (h2 : k ≠ 2) (h3 : k ≠ 3) (h4 : k ≠ 4) (h5 : k ≠ 5) (b : Bool) (n : Int) (s t i : ByteArray) (A : Option Addr) (l c : Nat) (w : World) : Calls Try.prog 117 #[.agg #[.int .i64 k, .bool b, .int .i64 n, .string s, .string t, .string i, .slice A l c]] w fun e w' => e = .returned .nilIface ∧ Below w.heap.size w w' := by
  have h1_0 : (k == 1) = false := beq_eq_false_iff_ne.mpr h1
  have h2_0 : (k == 2) = false := beq_eq_false_iff_ne.mpr h2
  have h3_0 : (k == 3) = false := beq_eq_false_iff_ne.mpr h3
  have h4_0 : (k == 4) = false := beq_eq_false_iff_ne.mpr h4
  have h5_0 : (k == 5) = false := beq_eq_false_iff_ne.mpr h5
  clear h1 h2 h3 h4 h5
  go_enter Try.func117, Try.ntmps117
  go_wp2
  go_ret
  exact ⟨rfl, below_alloc (Below.refl _ _) _⟩
/-- The kind of a value as it is reckoned with. -/
def ofV (k : Int) (b : Bool) (n : Int) (s t i : ByteArray) (A : Option Addr) (l c : Nat) : Value :=
  if k = 1 then .iface 163 (.bool b) else if k = 2 then .iface 171 (.int .i64 n) else if k = 3 then .iface 167 (.string s) else if k = 4 then .iface 192 (.agg #[.string t, .string i]) else if k = 5 then .iface 193 (.slice A l c) else .nilIface
theorem of_any (k : Int) (b : Bool) (n : Int) (s t i : ByteArray) (A : Option Addr) (l c : Nat) (w : World) : Calls Try.prog 117 #[.agg #[.int .i64 k, .bool b, .int .i64 n, .string s, .string t, .string i, .slice A l c]] w fun e w' => e = .returned (ofV k b n s t i A l c) ∧ Below w.heap.size w w' := by
  unfold ofV
  by_cases h1 : k = 1
  · subst h1; exact of_1 b n s t i A l c w
  by_cases h2 : k = 2
  · subst h2; exact of_2 b n s t i A l c w
  by_cases h3 : k = 3
  · subst h3; exact of_3 b n s t i A l c w
  by_cases h4 : k = 4
  · subst h4; exact of_4 b n s t i A l c w
  by_cases h5 : k = 5
  · subst h5; exact of_5 b n s t i A l c w
  rw [if_neg h1, if_neg h2, if_neg h3, if_neg h4, if_neg h5]
  exact of_0 k h1 h2 h3 h4 h5 b n s t i A l c w
/-- No number. -/
def NotNum (x : Value) : Prop := ∀ w, Sem.run Try.prog (Instr.typeAssert x 20 171 true) w = .ok (.tuple #[.int .i64 0, .bool false]) w
theorem notNum_of (k : Int) (hk : k ≠ 2) (b : Bool) (n : Int) (s t i : ByteArray) (A : Option Addr) (l c : Nat) : NotNum (ofV k b n s t i A l c) := by
  intro w
  unfold ofV
  by_cases h1 : k = 1
  · rw [if_pos h1]; exact ta_number_truth _ w
  by_cases h3 : k = 3
  · rw [if_neg h1, if_neg hk, if_pos h3]; exact ta_number_words _ w
  by_cases h4 : k = 4
  · rw [if_neg h1, if_neg hk, if_neg h3, if_pos h4]; exact ta_number_uid _ w
  by_cases h5 : k = 5
  · rw [if_neg h1, if_neg hk, if_neg h3, if_neg h4, if_pos h5]; exact ta_number_set _ w
  rw [if_neg h1, if_neg hk, if_neg h3, if_neg h4, if_neg h5]; exact ta_number_nil w
set_option maxRecDepth 100000 in
set_option maxHeartbeats 8000000 in
theorem numbers_type_ab (op : Int) (x : Value) (hx : NotNum x) (y : Value) (hy : NotNum y) (w : World) : Calls Try.prog 125 #[.int .i64 op, x, y] w fun e w' => e = .returned (.tuple #[.agg #[.int .i64 0, .bool false, .int .i64 0, .string ⟨#[]⟩, .string ⟨#[]⟩, .string ⟨#[]⟩, .slice none 0 0], .int .i64 16]) ∧ Below w.heap.size w w' := by
  have h2 : ∀ w, _ := hx
  have h3 : ∀ w, _ := hy
  unfold NotNum at *
  go_enter Try.func125, Try.ntmps125
  go_wp2
  (try simp only [Exit.inBlock, Exit.then])
  refine bodyPost_ret (results_row_tmp rfl _ _ w.heap.size 55 _ (0, 0) _ rfl (blk_new _ _) Try.underlying55 rfl (by kernel_rfl)) rfl ?_
  exact ⟨rfl, below_alloc (Below.refl _ _) _⟩
set_option maxRecDepth 100000 in
set_option maxHeartbeats 8000000 in
theorem numbers_type_a (op : Int) (x : Value) (hx : NotNum x) (m : Int) (w : World) : Calls Try.prog 125 #[.int .i64 op, x, .iface 171 (.int .i64 m)] w fun e w' => e = .returned (.tuple #[.agg #[.int .i64 0, .bool false, .int .i64 0, .string ⟨#[]⟩, .string ⟨#[]⟩, .string ⟨#[]⟩, .slice none 0 0], .int .i64 16]) ∧ Below w.heap.size w w' := by
  have h2 : ∀ w, _ := hx
  have h3 : ∀ w, _ := ta_number (.int .i64 m)
  unfold NotNum at *
  go_enter Try.func125, Try.ntmps125
  go_wp2
  (try simp only [Exit.inBlock, Exit.then])
  refine bodyPost_ret (results_row_tmp rfl _ _ w.heap.size 55 _ (0, 0) _ rfl (blk_new _ _) Try.underlying55 rfl (by kernel_rfl)) rfl ?_
  exact ⟨rfl, below_alloc (Below.refl _ _) _⟩
set_option maxRecDepth 100000 in
set_option maxHeartbeats 8000000 in
theorem numbers_type_b (op : Int) (n : Int) (y : Value) (hy : NotNum y) (w : World) : Calls Try.prog 125 #[.int .i64 op, .iface 171 (.int .i64 n), y] w fun e w' => e = .returned (.tuple #[.agg #[.int .i64 0, .bool false, .int .i64 0, .string ⟨#[]⟩, .string ⟨#[]⟩, .string ⟨#[]⟩, .slice none 0 0], .int .i64 16]) ∧ Below w.heap.size w w' := by
  have h2 : ∀ w, _ := ta_number (.int .i64 n)
  have h3 : ∀ w, _ := hy
  unfold NotNum at *
  go_enter Try.func125, Try.ntmps125
  go_wp2
  (try simp only [Exit.inBlock, Exit.then])
  refine bodyPost_ret (results_row_tmp rfl _ _ w.heap.size 55 _ (0, 0) _ rfl (blk_new _ _) Try.underlying55 rfl (by kernel_rfl)) rfl ?_
  exact ⟨rfl, below_alloc (Below.refl _ _) _⟩
end Go.Proofs.Ytelibndkkokadaa.EV
