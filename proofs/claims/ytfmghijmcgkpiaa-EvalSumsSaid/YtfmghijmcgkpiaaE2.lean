import Derived.Test.YtfmghijmcgkpiaaGS0
import Derived.Test.YtfmghijmcgkpiaaE1
namespace Go.Proofs.Ytfmghijmcgkpiaa.GE
open Go.RowKit Go.Proofs.YtfmghijmcgkpiaaW.PrintWords Go.Proofs.YtfmghijmcgkpiaaW.PrintLast Go.Proofs.Ytfmghijmcgkpiaa.HandV Go.Proofs.YtfmghijmcgkpiaaW.PrintMore
open Go.Proofs.Ytfmghijmcgkpiaa.GS
attribute [local go_sem] max2_int min2_int max_two min_two max_three min_three max_four min_four   -- for this text's walks alone
set_option linter.unusedVariables false
set_option linter.unusedSimpArgs false
-- IMPORT .E1
theorem Box.alloc {w : World} {b : Nat} (h : Box w b) (o : Obj) : Box (w.alloc o) b := h.mono (below_alloc (Below.refl _ _) o)
set_option maxRecDepth 100000 in
set_option maxHeartbeats 4000000 in
theorem search0 (f : Value) (w : World) : Calls Try.prog 77 #[.int .i64 0, f] w fun e w' => e = .returned (.int .i64 0) ∧ w = w' := by
  go_enter Try.func77, Try.ntmps77
  go_wp2
  go_loopw [5, 6] (fun v5 v6 wr => v5 = .int .i64 0 ∧ v6 = .int .i64 0 ∧ w = wr) (fun _ _ _ => 0)
  case atStart => exact ⟨rfl, rfl, rfl⟩
  case round =>
    obtain ⟨rfl, rfl, rfl⟩ := hrel
    go_wp2
    go_ret
    exact ⟨rfl, rfl⟩
set_option maxRecDepth 100000 in
set_option maxHeartbeats 4000000 in
theorem at_nil (A : Option Addr) (c : Nat) (t i : ByteArray) (w : World) : Calls Try.prog 89 #[.slice A 0 c, .agg #[.string t, .string i]] w fun e w' => e = .returned (.tuple #[.int .i64 0, .bool false]) ∧ Below w.heap.size w w' := by
  go_enter Try.func89, Try.ntmps89
  go_wp2_with (go_at_call 77; refine (search0 _ _).mono ?_; rintro e w1 ⟨rfl, rfl⟩)
  go_quiet ((fail))
  go_wp2
  go_ret2
  exact ⟨rfl, by repeat (first | exact Below.refl _ _ | apply below_alloc | apply pw_below_drewN | apply below_drew1)⟩
theorem hcell {w : World} {b : Nat} {cs : Array Value} {t : TypeId} {fr : Nat × Nat} (h : w.heap[b]? = some (.cells cs t fr)) (j : Nat) (v : Value) (hv : cs[j]? = some v) : w.cell? ⟨b, j, none⟩ = some v := by
  unfold World.cell?
  rw [h]
  exact hv
theorem hfroz {w : World} {b : Nat} {cs : Array Value} {t : TypeId} (h : w.heap[b]? = some (.cells cs t (0, 0))) : ∀ o, w.frozen? ⟨b, o, none⟩ = false := by
  intro o
  unfold World.frozen?
  rw [h]
  simp
set_option maxRecDepth 100000 in
set_option maxHeartbeats 4000000 in
theorem find_nil (A : Option Addr) (c : Nat) (t i : ByteArray) (w : World) : Calls Try.prog 29 #[.slice A 0 c, .agg #[.string t, .string i]] w fun e w' => e = .returned (.tuple #[.agg #[.string ⟨#[]⟩, .string ⟨#[]⟩, .slice none 0 0, .slice none 0 0], .bool false]) ∧ Below w.heap.size w w' := by
  have hc := at_nil A c t i
  go_enter Try.func29, Try.ntmps29
  go_wp2_with (go_at_call 89; refine (hc _).mono ?_; rintro e w1 ⟨rfl, hb⟩; have HB1 : Aside0 (Below w.heap.size w w1) := ⟨below_step (by repeat (first | exact Below.refl _ _ | apply below_alloc)) hb⟩; have HBX : Aside0 (w1.heap[w.heap.size + 1]? = some (.cells #[.string ⟨#[]⟩, .string ⟨#[]⟩, .slice none 0 0, .slice none 0 0] 46 (0, 0))) := ⟨(hb.block _ (by simp)).trans (blk_at _ _ _ (by simp))⟩; have r0 := hcell HBX.out 0 _ rfl; have r1 := hcell HBX.out 1 _ rfl; have r2 := hcell HBX.out 2 _ rfl; have r3 := hcell HBX.out 3 _ rfl; have r7 := hfroz HBX.out; clear hb)
  (try simp only [Exit.inBlock, Exit.then])
  have hd : (w1.setCells (w.heap.size + 1) 0 [.string ⟨#[]⟩, .string ⟨#[]⟩, .slice none 0 0, .slice none 0 0]).heap[w.heap.size + 1]? = some (.cells #[.string ⟨#[]⟩, .string ⟨#[]⟩, .slice none 0 0, .slice none 0 0] 46 (0, 0)) := by
    have := setCells_heap (w.heap.size + 1) 46 (0, 0) [.string ⟨#[]⟩, .string ⟨#[]⟩, .slice none 0 0, .slice none 0 0] 0 w1 _ HBX.out (by decide)
    simpa using this
  have hbl := HB1.out.trans (below_cells (B := w.heap.size) (w.heap.size + 1) (by omega) [.string ⟨#[]⟩, .string ⟨#[]⟩, .slice none 0 0, .slice none 0 0] 0 w1)
  simp only [World.setCells] at hd hbl
  refine bodyPost_ret (results_row_tmp rfl _ _ (w.heap.size + 1) 46 _ (0, 0) _ rfl hd Try.underlying46 rfl (by kernel_rfl)) rfl ?_
  exact ⟨rfl, hbl⟩
set_option maxRecDepth 100000 in
set_option maxHeartbeats 8000000 in
theorem get_gone (A : Option Addr) (c : Nat) (p0 p1 p2 p3 p4 p5 : ByteArray) (t i s : ByteArray) (w : World) : Calls Try.prog 162 #[.agg #[.slice A 0 c, .string p0, .string p1, .string p2, .string p3, .string p4, .string p5], .iface 259 (.agg #[.string t, .string i]), .string s] w fun e w' => e = .returned (.tuple #[.agg #[.int .i64 0, .bool false, .int .i64 0, .string ⟨#[]⟩, .string ⟨#[]⟩, .string ⟨#[]⟩, .slice none 0 0], .int .i64 18]) ∧ Below w.heap.size w w' := by
  have h1 := ta_uid (.agg #[.string t, .string i])
  have hc := find_nil A c t i
  go_enter Try.func162, Try.ntmps162
  go_wp2_with (go_at_call 29; refine (hc _).mono ?_; rintro e w1 ⟨rfl, hb⟩; have HB1 : Aside0 (Below w.heap.size w w1) := ⟨below_step (by repeat (first | exact Below.refl _ _ | apply below_alloc)) hb⟩; have HBX : Aside0 (Box w1 (w.heap.size + 1)) := ⟨(hb.block _ (by simp)).trans (by rw [Below.heap_alloc _ _ _ (by simp)]; exact blk_at _ _ _ (by simp))⟩; have r0 := HBX.out.c0; have r1 := HBX.out.c1; have r2 := HBX.out.c2; have r3 := HBX.out.c3; have r4 := HBX.out.c4; have r5 := HBX.out.c5; have r6 := HBX.out.c6; have r7 := HBX.out.fr; have hsz : w.heap.size + 1 < w1.heap.size := lt_of_heap HBX.out; clear hb)
  (try simp only [Exit.inBlock, Exit.then])
  have hd := HBX.out.done (.int .i64 0) (.bool false) (.int .i64 0) (.string ⟨#[]⟩) (.string ⟨#[]⟩) (.string ⟨#[]⟩) (.slice none 0 0)
  have hbl := HB1.out.trans (below_cells (B := w.heap.size) (w.heap.size + 1) (by omega) [.int .i64 0, .bool false, .int .i64 0, .string ⟨#[]⟩, .string ⟨#[]⟩, .string ⟨#[]⟩, .slice none 0 0] 0 w1)
  simp only [World.setCells] at hd hbl
  refine bodyPost_ret (results_row_tmp rfl _ _ (w.heap.size + 1) 31 _ (0, 0) _ rfl ((Below.heap_alloc _ _ _ (lt_of_heap hd)).trans hd) Try.underlying31 rfl (by kernel_rfl)) rfl ?_
  exact ⟨rfl, below_alloc hbl _⟩
/-- No uid. -/
def NotUid (x : Value) : Prop := ∀ w, Sem.run Try.prog (Instr.typeAssert x 20 259 true) w = .ok (.tuple #[.agg #[.string ⟨#[]⟩, .string ⟨#[]⟩], .bool false]) w
theorem notUid_of (k : Int) (hk : k ≠ 4) (b : Bool) (n : Int) (s t i : ByteArray) (A : Option Addr) (l c : Nat) : NotUid (ofV k b n s t i A l c) := by
  intro w
  unfold ofV
  by_cases h1 : k = 1
  · rw [if_pos h1]; exact ta_uid_truth _ w
  by_cases h2 : k = 2
  · rw [if_neg h1, if_pos h2]; exact ta_uid_number _ w
  by_cases h3 : k = 3
  · rw [if_neg h1, if_neg h2, if_pos h3]; exact ta_uid_words _ w
  by_cases h5 : k = 5
  · rw [if_neg h1, if_neg h2, if_neg h3, if_neg hk, if_pos h5]; exact ta_uid_set _ w
  rw [if_neg h1, if_neg h2, if_neg h3, if_neg hk, if_neg h5]; exact ta_uid_nil w
set_option maxRecDepth 100000 in
set_option maxHeartbeats 8000000 in
theorem get_type (A : Option Addr) (c : Nat) (p0 p1 p2 p3 p4 p5 : ByteArray) (x : Value) (hx : NotUid x) (s : ByteArray) (w : World) : Calls Try.prog 162 #[.agg #[.slice A 0 c, .string p0, .string p1, .string p2, .string p3, .string p4, .string p5], x, .string s] w fun e w' => e = .returned (.tuple #[.agg #[.int .i64 0, .bool false, .int .i64 0, .string ⟨#[]⟩, .string ⟨#[]⟩, .string ⟨#[]⟩, .slice none 0 0], .int .i64 16]) ∧ Below w.heap.size w w' := by
  unfold NotUid at hx
  go_enter Try.func162, Try.ntmps162
  go_wp2
  (try simp only [Exit.inBlock, Exit.then])
  refine bodyPost_ret (results_row_tmp rfl _ _ (w.heap.size + 1) 31 _ (0, 0) _ rfl (by repeat (first | exact blk_at _ _ _ (by simp; done) | (refine (Below.heap_alloc _ _ _ (by first | (simp; done) | (simp; omega))).trans ?_))) Try.underlying31 rfl (by kernel_rfl)) rfl ?_
  exact ⟨rfl, by repeat (first | exact Below.refl _ _ | apply below_alloc)⟩
set_option maxRecDepth 100000 in
set_option maxHeartbeats 8000000 in
theorem has_uid (A : Option Addr) (c : Nat) (p0 p1 p2 p3 p4 p5 : ByteArray) (t i : ByteArray) (s : ByteArray) (w : World) : Calls Try.prog 163 #[.agg #[.slice A 0 c, .string p0, .string p1, .string p2, .string p3, .string p4, .string p5], .iface 259 (.agg #[.string t, .string i]), .string s] w fun e w' => e = .returned (.tuple #[.agg #[.int .i64 1, .bool false, .int .i64 0, .string ⟨#[]⟩, .string ⟨#[]⟩, .string ⟨#[]⟩, .slice none 0 0], .int .i64 0]) ∧ Below w.heap.size w w' := by
  have hg := get_gone A c p0 p1 p2 p3 p4 p5 t i s
  have hk := back_tr false
  go_enter Try.func163, Try.ntmps163
  go_wp2_with (first | (go_at_call 162; refine (hg _).mono ?_; rintro e w1 ⟨rfl, hb⟩; have HB1 : Aside0 (Below w.heap.size w w1) := ⟨below_step (by repeat (first | exact Below.refl _ _ | apply below_alloc)) hb⟩; have HBX1 : Aside0 (Box w1 (w.heap.size + 1)) := ⟨(hb.block _ (by first | (simp; done) | (simp; omega))).trans (by repeat (first | exact blk_at _ _ _ (by simp; done) | (refine (Below.heap_alloc _ _ _ (by first | (simp; done) | (simp; omega))).trans ?_)))⟩; have r0 := HBX1.out.c0; have r1 := HBX1.out.c1; have r2 := HBX1.out.c2; have r3 := HBX1.out.c3; have r4 := HBX1.out.c4; have r5 := HBX1.out.c5; have r6 := HBX1.out.c6; have r7 := HBX1.out.fr; have hsz := lt_of_heap HBX1.out; clear hb) | (go_at_call 159; refine (hk _).mono ?_; rintro e w2 ⟨rfl, hb⟩; have HB2 : Aside0 (Below w.heap.size w w2) := ⟨below_step (below_alloc HB1.out _) hb⟩; have HBX2 := Aside0.mk (Box.mono (Box.alloc HBX1.out _) hb); have r0 := HBX2.out.c0; have r1 := HBX2.out.c1; have r2 := HBX2.out.c2; have r3 := HBX2.out.c3; have r4 := HBX2.out.c4; have r5 := HBX2.out.c5; have r6 := HBX2.out.c6; have r7 := HBX2.out.fr; clear hb))
  (try simp only [Exit.inBlock, Exit.then])
  have hd := HBX2.out.done (.int .i64 1) (.bool false) (.int .i64 0) (.string ⟨#[]⟩) (.string ⟨#[]⟩) (.string ⟨#[]⟩) (.slice none 0 0)
  have hbl := HB2.out.trans (below_cells (B := w.heap.size) (w.heap.size + 1) (by omega) [.int .i64 1, .bool false, .int .i64 0, .string ⟨#[]⟩, .string ⟨#[]⟩, .string ⟨#[]⟩, .slice none 0 0] 0 w2)
  simp only [World.setCells] at hd hbl
  refine bodyPost_ret (results_row_tmp rfl _ _ (w.heap.size + 1) 31 _ (0, 0) _ rfl hd Try.underlying31 rfl (by kernel_rfl)) rfl ?_
  exact ⟨rfl, hbl⟩
set_option maxRecDepth 100000 in
set_option maxHeartbeats 8000000 in
theorem has_type (A : Option Addr) (c : Nat) (p0 p1 p2 p3 p4 p5 : ByteArray) (x : Value) (hx : NotUid x) (s : ByteArray) (w : World) : Calls Try.prog 163 #[.agg #[.slice A 0 c, .string p0, .string p1, .string p2, .string p3, .string p4, .string p5], x, .string s] w fun e w' => e = .returned (.tuple #[.agg #[.int .i64 0, .bool false, .int .i64 0, .string ⟨#[]⟩, .string ⟨#[]⟩, .string ⟨#[]⟩, .slice none 0 0], .int .i64 16]) ∧ Below w.heap.size w w' := by
  have hg := get_type A c p0 p1 p2 p3 p4 p5 x hx s
  have hk := back_tr false
  go_enter Try.func163, Try.ntmps163
  go_wp2_with (first | (go_at_call 162; refine (hg _).mono ?_; rintro e w1 ⟨rfl, hb⟩; have HB1 : Aside0 (Below w.heap.size w w1) := ⟨below_step (by repeat (first | exact Below.refl _ _ | apply below_alloc)) hb⟩; have HBX1 : Aside0 (Box w1 (w.heap.size + 1)) := ⟨(hb.block _ (by first | (simp; done) | (simp; omega))).trans (by repeat (first | exact blk_at _ _ _ (by simp; done) | (refine (Below.heap_alloc _ _ _ (by first | (simp; done) | (simp; omega))).trans ?_)))⟩; have r0 := HBX1.out.c0; have r1 := HBX1.out.c1; have r2 := HBX1.out.c2; have r3 := HBX1.out.c3; have r4 := HBX1.out.c4; have r5 := HBX1.out.c5; have r6 := HBX1.out.c6; have r7 := HBX1.out.fr; have hsz := lt_of_heap HBX1.out; clear hb) | (go_at_call 159; refine (hk _).mono ?_; rintro e w2 ⟨rfl, hb⟩; have HB2 : Aside0 (Below w.heap.size w w2) := ⟨below_step (below_alloc HB1.out _) hb⟩; have HBX2 := Aside0.mk (Box.mono (Box.alloc HBX1.out _) hb); have r0 := HBX2.out.c0; have r1 := HBX2.out.c1; have r2 := HBX2.out.c2; have r3 := HBX2.out.c3; have r4 := HBX2.out.c4; have r5 := HBX2.out.c5; have r6 := HBX2.out.c6; have r7 := HBX2.out.fr; clear hb))
  (try simp only [Exit.inBlock, Exit.then])
  have hd := HBX1.out.done (.int .i64 0) (.bool false) (.int .i64 0) (.string ⟨#[]⟩) (.string ⟨#[]⟩) (.string ⟨#[]⟩) (.slice none 0 0)
  have hbl := HB1.out.trans (below_cells (B := w.heap.size) (w.heap.size + 1) (by omega) [.int .i64 0, .bool false, .int .i64 0, .string ⟨#[]⟩, .string ⟨#[]⟩, .string ⟨#[]⟩, .slice none 0 0] 0 w1)
  simp only [World.setCells] at hd hbl
  refine bodyPost_ret (results_row_tmp rfl _ _ (w.heap.size + 1) 31 _ (0, 0) _ rfl ((Below.heap_alloc _ _ _ (lt_of_heap hd)).trans hd) Try.underlying31 rfl (by kernel_rfl)) rfl ?_
  exact ⟨rfl, below_alloc hbl _⟩
end Go.Proofs.Ytfmghijmcgkpiaa.GE
