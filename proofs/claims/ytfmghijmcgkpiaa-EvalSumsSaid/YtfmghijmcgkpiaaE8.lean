import Derived.Test.YtfmghijmcgkpiaaGS0
import Derived.Test.YtfmghijmcgkpiaaE7
import Derived.Test.YtfmghijmcgkpiaaGS3
namespace Go.Proofs.Ytfmghijmcgkpiaa.GE
open Go.RowKit Go.Proofs.YtfmghijmcgkpiaaW.PrintWords Go.Proofs.YtfmghijmcgkpiaaW.PrintLast Go.Proofs.Ytfmghijmcgkpiaa.HandV Go.Proofs.YtfmghijmcgkpiaaW.PrintMore
open Go.Proofs.Ytfmghijmcgkpiaa.GS
attribute [local go_sem] max2_int min2_int max_two min_two max_three min_three max_four min_four   -- for this text's walks alone
set_option linter.unusedVariables false
set_option linter.unusedSimpArgs false
-- IMPORT .E7
-- FN eval_world_leaf
theorem nilC (w : World) (A : Option Addr) : Kd.C k46 w A ([] : List S46).length [] := ⟨rfl, by simp, fun h => absurd h (Nat.lt_irrefl 0)⟩
set_option maxRecDepth 100000 in
set_option maxHeartbeats 16000000 in
theorem expr_leaf (p0 p1 p2 p3 p4 p5 : ByteArray) (x : S67) (hop : x.f0 < 6) (r : S31) (h : eval_world_leaf.f [] p0 p1 p2 p3 p4 p5 x.f0 x.f1 x.f2 x.f3 x.f4.f0 x.f4.f1 x.f5 = some (r.f0, r.f1, r.f2, r.f3, r.f4.f0, r.f4.f1, r.f5)) (A : Option Addr) (c : Nat) (B : Option Addr) (kc : Nat) (w : World) (hl : x.f5.length ≤ kc) (hC : k67.C w B x.f5.length x.f5) :
    Calls Try.prog 97 #[.agg #[.slice A 0 c, .string p0, .string p1, .string p2, .string p3, .string p4, .string p5], .agg #[.int .i64 x.f0, .bool x.f1, .int .i64 x.f2, .string x.f3, .string x.f4.f0, .string x.f4.f1, .slice B x.f5.length kc]] w (Gives w r 0) := by
  have HL := Aside0.mk hl
  have hop1 : decide (x.f0 < 6) = true := decide_eq_true hop
  have hcs := (fun W (hW : Below w.heap.size w W) => eval_world_leaf.calls A c [] p0 p1 p2 p3 p4 p5 x.f0 x.f1 x.f2 x.f3 x.f4.f0 x.f4.f1 B kc x.f5 r.f0 r.f1 r.f2 r.f3 r.f4.f0 r.f4.f1 r.f5 W (nilC W A) (Nat.zero_le _) (Kd.C_below hC hW) hl h)
  simp only [List.length_nil] at hcs
  have HCS := Aside0.mk hcs
  clear h hC hop hcs
  go_enter Try.func97, Try.ntmps97
  go_wp2_with (go_at_call 135; (with_reducible refine (HCS.out _ (by repeat (first | exact Below.refl _ _ | apply below_alloc))).mono ?_); rintro e w1 ⟨v6, rfl, hV, hb⟩; obtain ⟨A6, c6, rfl⟩ := Kd.N_slice (Kd.R_N hV); have HS0 := hb.size; have HV := Aside0.mk (Kd.V_mono (Kd.N_V (base' := w.heap.size) (Kd.R_N (Kd.R_bound hV))) (ok' := fun k_ => w.heap.size + 3 ≤ k_) (fun k_ hk => by have := hk.2.1; simp at this; omega)); have HB1 : Aside0 (Below w.heap.size w w1) := ⟨below_step (by repeat (first | exact Below.refl _ _ | apply below_alloc)) hb⟩; have HX1 : Aside0 (Box w1 (w.heap.size + 1 + 1)) := ⟨(hb.block _ (by first | (simp; done) | (simp; omega))).trans (by repeat (first | exact blk_at _ _ _ (by simp; done) | (refine (Below.heap_alloc _ _ _ (by first | (simp; done) | (simp; omega))).trans ?_)))⟩; have q0 := HX1.out.c0; have q1 := HX1.out.c1; have q2 := HX1.out.c2; have q3 := HX1.out.c3; have q4 := HX1.out.c4; have q5 := HX1.out.c5; have q6 := HX1.out.c6; have q7 := HX1.out.fr; clear hV hb)
  (try simp only [Exit.inBlock, Exit.then])
  have hd := HX1.out.done (.int .i64 r.f0) (.bool r.f1) (.int .i64 r.f2) (.string r.f3) (.string r.f4.f0) (.string r.f4.f1) (.slice A6 r.f5.length c6)
  have hbl := HB1.out.trans (below_cells (B := w.heap.size) (w.heap.size + 1 + 1) (by omega) [.int .i64 r.f0, .bool r.f1, .int .i64 r.f2, .string r.f3, .string r.f4.f0, .string r.f4.f1, .slice A6 r.f5.length c6] 0 w1)
  simp only [World.setCells] at hd hbl
  refine bodyPost_ret (results_row_tmp rfl _ _ (w.heap.size + 1 + 1) 31 _ (0, 0) _ rfl hd Try.underlying31 rfl (by kernel_rfl)) rfl ?_
  exact ⟨_, rfl, Kd.V_mono (Kd.V_step HV.out (fun k_ hk _ => heap_after7 _ _ _ _ _ _ _ (by omega))) (fun k_ hk => by omega), hbl⟩
set_option maxRecDepth 100000 in
set_option maxHeartbeats 16000000 in
theorem expr_set (p0 p1 p2 p3 p4 p5 : ByteArray) (A : Option Addr) (c : Nat) (B : Option Addr) (kc : Nat) (w : World) (x : S67) (hop : x.f0 = 6) (r : S31) (er : Int) (h : ∀ W, Below w.heap.size w W → Calls Try.prog 136 #[.agg #[.slice A 0 c, .string p0, .string p1, .string p2, .string p3, .string p4, .string p5], .slice B x.f5.length kc] W (Gives W r er)) :
    Calls Try.prog 97 #[.agg #[.slice A 0 c, .string p0, .string p1, .string p2, .string p3, .string p4, .string p5], .agg #[.int .i64 x.f0, .bool x.f1, .int .i64 x.f2, .string x.f3, .string x.f4.f0, .string x.f4.f1, .slice B x.f5.length kc]] w (Gives w r er) := by
  have hop1 : decide (x.f0 < 6) = false := decide_eq_false (by omega)
  have hop2 : (x.f0 == 6) = true := beq_iff_eq.mpr hop
  have HCS := Aside0.mk h
  clear h hop
  go_enter Try.func97, Try.ntmps97
  go_wp2_with (go_at_call 136; (with_reducible refine (HCS.out _ (by repeat (first | exact Below.refl _ _ | apply below_alloc))).mono ?_); rintro e w1 ⟨v6, rfl, hV, hb⟩; obtain ⟨A6, c6, rfl⟩ := Kd.V_slice hV; have HS0 := hb.size; have HV := Aside0.mk (Kd.V_mono hV (ok' := fun k_ => w.heap.size + 3 ≤ k_) (fun k_ hk => by simp at hk; omega)); have HB1 : Aside0 (Below w.heap.size w w1) := ⟨below_step (by repeat (first | exact Below.refl _ _ | apply below_alloc)) hb⟩; have HX1 : Aside0 (Box w1 (w.heap.size + 1 + 1)) := ⟨(hb.block _ (by first | (simp; done) | (simp; omega))).trans (by repeat (first | exact blk_at _ _ _ (by simp; done) | (refine (Below.heap_alloc _ _ _ (by first | (simp; done) | (simp; omega))).trans ?_)))⟩; have q0 := HX1.out.c0; have q1 := HX1.out.c1; have q2 := HX1.out.c2; have q3 := HX1.out.c3; have q4 := HX1.out.c4; have q5 := HX1.out.c5; have q6 := HX1.out.c6; have q7 := HX1.out.fr; clear hV hb)
  (try simp only [Exit.inBlock, Exit.then])
  have hd := HX1.out.done (.int .i64 r.f0) (.bool r.f1) (.int .i64 r.f2) (.string r.f3) (.string r.f4.f0) (.string r.f4.f1) (.slice A6 r.f5.length c6)
  have hbl := HB1.out.trans (below_cells (B := w.heap.size) (w.heap.size + 1 + 1) (by omega) [.int .i64 r.f0, .bool r.f1, .int .i64 r.f2, .string r.f3, .string r.f4.f0, .string r.f4.f1, .slice A6 r.f5.length c6] 0 w1)
  simp only [World.setCells] at hd hbl
  refine bodyPost_ret (results_row_tmp rfl _ _ (w.heap.size + 1 + 1) 31 _ (0, 0) _ rfl hd Try.underlying31 rfl (by kernel_rfl)) rfl ?_
  exact ⟨_, rfl, Kd.V_mono (Kd.V_step HV.out (fun k_ hk _ => heap_after7 _ _ _ _ _ _ _ (by omega))) (fun k_ hk => by omega), hbl⟩
set_option maxRecDepth 100000 in
set_option maxHeartbeats 16000000 in
theorem expr_few_none (p0 p1 p2 p3 p4 p5 : ByteArray) (x : S67) (h6 : 6 < x.f0) (hn : x.f5.length = 0) (A : Option Addr) (c : Nat) (B : Option Addr) (kc : Nat) (w : World) (hl : x.f5.length ≤ kc) (hC : k67.C w B x.f5.length x.f5) :
    Calls Try.prog 97 #[.agg #[.slice A 0 c, .string p0, .string p1, .string p2, .string p3, .string p4, .string p5], .agg #[.int .i64 x.f0, .bool x.f1, .int .i64 x.f2, .string x.f3, .string x.f4.f0, .string x.f4.f1, .slice B x.f5.length kc]] w (Gives w zV 16) := by
  have hop1 : decide (x.f0 < 6) = false := decide_eq_false (by omega)
  have hop2 : (x.f0 == 6) = false := beq_eq_false_iff_ne.mpr (by omega)
  have hk0 : ((x.f5.length : Int) == 0) = true := by simp [hn]
  have hk0b : (x.f5.length == 0) = true := by simp [hn]
  have HN := Aside0.mk hn
  clear hn
  clear h6 hC
  go_enter Try.func97, Try.ntmps97
  go_wp2
  (try simp only [Exit.inBlock, Exit.then])
  refine bodyPost_ret (results_row_tmp rfl _ _ (w.heap.size + 1 + 1) 31 _ (0, 0) _ rfl (by repeat (first | exact blk_at _ _ _ (by simp; done) | (refine (Below.heap_alloc _ _ _ (by first | (simp; done) | (simp; omega))).trans ?_))) Try.underlying31 rfl (by kernel_rfl)) rfl ?_
  exact ⟨_, rfl, Kd.V_nil _ _ _ _ _, by repeat (first | exact Below.refl _ _ | apply below_alloc)⟩
set_option maxRecDepth 100000 in
set_option maxHeartbeats 16000000 in
theorem expr_few_one (p0 p1 p2 p3 p4 p5 : ByteArray) (x : S67) (h6 : 23 ≤ x.f0) (hn : x.f5.length = 1) (A : Option Addr) (c : Nat) (B : Option Addr) (kc : Nat) (w : World) (hl : x.f5.length ≤ kc) (hC : k67.C w B x.f5.length x.f5) :
    Calls Try.prog 97 #[.agg #[.slice A 0 c, .string p0, .string p1, .string p2, .string p3, .string p4, .string p5], .agg #[.int .i64 x.f0, .bool x.f1, .int .i64 x.f2, .string x.f3, .string x.f4.f0, .string x.f4.f1, .slice B x.f5.length kc]] w (Gives w zV 16) := by
  have hop1 : decide (x.f0 < 6) = false := decide_eq_false (by omega)
  have hop2 : (x.f0 == 6) = false := beq_eq_false_iff_ne.mpr (by omega)
  have hk0 : ((x.f5.length : Int) == 0) = false := by simp [hn]
  have h23 : decide (23 ≤ x.f0) = true := decide_eq_true h6
  have hk2 : decide ((x.f5.length : Int) < 2) = true := decide_eq_true (by omega)
  have HN := Aside0.mk hn
  clear hn
  clear h6 hC
  go_enter Try.func97, Try.ntmps97
  go_wp2
  (try simp only [Exit.inBlock, Exit.then])
  refine bodyPost_ret (results_row_tmp rfl _ _ (w.heap.size + 1 + 1) 31 _ (0, 0) _ rfl (by repeat (first | exact blk_at _ _ _ (by simp; done) | (refine (Below.heap_alloc _ _ _ (by first | (simp; done) | (simp; omega))).trans ?_))) Try.underlying31 rfl (by kernel_rfl)) rfl ?_
  exact ⟨_, rfl, Kd.V_nil _ _ _ _ _, by repeat (first | exact Below.refl _ _ | apply below_alloc)⟩
set_option maxRecDepth 100000 in
set_option maxHeartbeats 16000000 in
theorem expr_few_two (p0 p1 p2 p3 p4 p5 : ByteArray) (x : S67) (h6 : x.f0 = 25) (hn : x.f5.length = 2) (A : Option Addr) (c : Nat) (B : Option Addr) (kc : Nat) (w : World) (hl : x.f5.length ≤ kc) (hC : k67.C w B x.f5.length x.f5) :
    Calls Try.prog 97 #[.agg #[.slice A 0 c, .string p0, .string p1, .string p2, .string p3, .string p4, .string p5], .agg #[.int .i64 x.f0, .bool x.f1, .int .i64 x.f2, .string x.f3, .string x.f4.f0, .string x.f4.f1, .slice B x.f5.length kc]] w (Gives w zV 16) := by
  have hop1 : decide (x.f0 < 6) = false := decide_eq_false (by omega)
  have hop2 : (x.f0 == 6) = false := beq_eq_false_iff_ne.mpr (by omega)
  have hk0 : ((x.f5.length : Int) == 0) = false := by simp [hn]
  have h23 : decide (23 ≤ x.f0) = true := decide_eq_true (by omega)
  have hk2 : decide ((x.f5.length : Int) < 2) = false := decide_eq_false (by omega)
  have h25 : (x.f0 == 25) = true := beq_iff_eq.mpr h6
  have hk3 : decide ((x.f5.length : Int) < 3) = true := decide_eq_true (by omega)
  have HN := Aside0.mk hn
  clear hn
  clear h6 hC
  go_enter Try.func97, Try.ntmps97
  go_wp2
  (try simp only [Exit.inBlock, Exit.then])
  refine bodyPost_ret (results_row_tmp rfl _ _ (w.heap.size + 1 + 1) 31 _ (0, 0) _ rfl (by repeat (first | exact blk_at _ _ _ (by simp; done) | (refine (Below.heap_alloc _ _ _ (by first | (simp; done) | (simp; omega))).trans ?_))) Try.underlying31 rfl (by kernel_rfl)) rfl ?_
  exact ⟨_, rfl, Kd.V_nil _ _ _ _ _, by repeat (first | exact Below.refl _ _ | apply below_alloc)⟩
set_option maxRecDepth 100000 in
set_option maxHeartbeats 16000000 in
theorem expr_choice (p0 p1 p2 p3 p4 p5 : ByteArray) (x : S67) (h23 : 23 ≤ x.f0) (h25 : x.f0 ≠ 25) (hn : 2 ≤ x.f5.length) (r : S31) (er : Int) (A : Option Addr) (c : Nat) (B : Option Addr) (kc : Nat) (w : World) (h : ∀ W, Below w.heap.size w W → Calls Try.prog 137 #[.agg #[.slice A 0 c, .string p0, .string p1, .string p2, .string p3, .string p4, .string p5], .agg #[.int .i64 x.f0, .bool x.f1, .int .i64 x.f2, .string x.f3, .string x.f4.f0, .string x.f4.f1, .slice B x.f5.length kc]] W (Gives W r er)) :
    Calls Try.prog 97 #[.agg #[.slice A 0 c, .string p0, .string p1, .string p2, .string p3, .string p4, .string p5], .agg #[.int .i64 x.f0, .bool x.f1, .int .i64 x.f2, .string x.f3, .string x.f4.f0, .string x.f4.f1, .slice B x.f5.length kc]] w (Gives w r er) := by
  have h25b : (x.f0 == 25) = false := beq_eq_false_iff_ne.mpr h25
  clear h25
  have hop1 : decide (x.f0 < 6) = false := decide_eq_false (by omega)
  have hop2 : (x.f0 == 6) = false := beq_eq_false_iff_ne.mpr (by omega)
  have hk0 : ((x.f5.length : Int) == 0) = false := beq_eq_false_iff_ne.mpr (by omega)
  have h23b : decide (23 ≤ x.f0) = true := decide_eq_true h23
  have hk2 : decide ((x.f5.length : Int) < 2) = false := decide_eq_false (by omega)
  have HCS := Aside0.mk h
  have HN := Aside0.mk hn
  clear h hn h23
  go_enter Try.func97, Try.ntmps97
  go_wp2_with (go_at_call 137; (with_reducible refine (HCS.out _ (by repeat (first | exact Below.refl _ _ | apply below_alloc))).mono ?_); rintro e w1 ⟨v6, rfl, hV, hb⟩; obtain ⟨A6, c6, rfl⟩ := Kd.V_slice hV; have HS0 := hb.size; have HV := Aside0.mk (Kd.V_mono hV (ok' := fun k_ => w.heap.size + 3 ≤ k_) (fun k_ hk => by simp at hk; omega)); have HB1 : Aside0 (Below w.heap.size w w1) := ⟨below_step (by repeat (first | exact Below.refl _ _ | apply below_alloc)) hb⟩; have HX1 : Aside0 (Box w1 (w.heap.size + 1 + 1)) := ⟨(hb.block _ (by first | (simp; done) | (simp; omega))).trans (by repeat (first | exact blk_at _ _ _ (by simp; done) | (refine (Below.heap_alloc _ _ _ (by first | (simp; done) | (simp; omega))).trans ?_)))⟩; have q0 := HX1.out.c0; have q1 := HX1.out.c1; have q2 := HX1.out.c2; have q3 := HX1.out.c3; have q4 := HX1.out.c4; have q5 := HX1.out.c5; have q6 := HX1.out.c6; have q7 := HX1.out.fr; clear hV hb)
  (try simp only [Exit.inBlock, Exit.then])
  have hd := HX1.out.done (.int .i64 r.f0) (.bool r.f1) (.int .i64 r.f2) (.string r.f3) (.string r.f4.f0) (.string r.f4.f1) (.slice A6 r.f5.length c6)
  have hbl := HB1.out.trans (below_cells (B := w.heap.size) (w.heap.size + 1 + 1) (by omega) [.int .i64 r.f0, .bool r.f1, .int .i64 r.f2, .string r.f3, .string r.f4.f0, .string r.f4.f1, .slice A6 r.f5.length c6] 0 w1)
  simp only [World.setCells] at hd hbl
  refine bodyPost_ret (results_row_tmp rfl _ _ (w.heap.size + 1 + 1) 31 _ (0, 0) _ rfl hd Try.underlying31 rfl (by kernel_rfl)) rfl ?_
  exact ⟨_, rfl, Kd.V_mono (Kd.V_step HV.out (fun k_ hk _ => heap_after7 _ _ _ _ _ _ _ (by omega))) (fun k_ hk => by omega), hbl⟩
set_option maxRecDepth 100000 in
set_option maxHeartbeats 16000000 in
theorem expr_if (p0 p1 p2 p3 p4 p5 : ByteArray) (x : S67) (h25 : x.f0 = 25) (hn : 3 ≤ x.f5.length) (r : S31) (er : Int) (A : Option Addr) (c : Nat) (B : Option Addr) (kc : Nat) (w : World) (h : ∀ W, Below w.heap.size w W → Calls Try.prog 137 #[.agg #[.slice A 0 c, .string p0, .string p1, .string p2, .string p3, .string p4, .string p5], .agg #[.int .i64 x.f0, .bool x.f1, .int .i64 x.f2, .string x.f3, .string x.f4.f0, .string x.f4.f1, .slice B x.f5.length kc]] W (Gives W r er)) :
    Calls Try.prog 97 #[.agg #[.slice A 0 c, .string p0, .string p1, .string p2, .string p3, .string p4, .string p5], .agg #[.int .i64 x.f0, .bool x.f1, .int .i64 x.f2, .string x.f3, .string x.f4.f0, .string x.f4.f1, .slice B x.f5.length kc]] w (Gives w r er) := by
  have h23 : 23 ≤ x.f0 := by omega
  have h25b : (x.f0 == 25) = true := beq_iff_eq.mpr h25
  have hk3 : decide ((x.f5.length : Int) < 3) = false := decide_eq_false (by omega)
  clear h25
  have hop1 : decide (x.f0 < 6) = false := decide_eq_false (by omega)
  have hop2 : (x.f0 == 6) = false := beq_eq_false_iff_ne.mpr (by omega)
  have hk0 : ((x.f5.length : Int) == 0) = false := beq_eq_false_iff_ne.mpr (by omega)
  have h23b : decide (23 ≤ x.f0) = true := decide_eq_true h23
  have hk2 : decide ((x.f5.length : Int) < 2) = false := decide_eq_false (by omega)
  have HCS := Aside0.mk h
  have HN := Aside0.mk hn
  clear h hn h23
  go_enter Try.func97, Try.ntmps97
  go_wp2_with (go_at_call 137; (with_reducible refine (HCS.out _ (by repeat (first | exact Below.refl _ _ | apply below_alloc))).mono ?_); rintro e w1 ⟨v6, rfl, hV, hb⟩; obtain ⟨A6, c6, rfl⟩ := Kd.V_slice hV; have HS0 := hb.size; have HV := Aside0.mk (Kd.V_mono hV (ok' := fun k_ => w.heap.size + 3 ≤ k_) (fun k_ hk => by simp at hk; omega)); have HB1 : Aside0 (Below w.heap.size w w1) := ⟨below_step (by repeat (first | exact Below.refl _ _ | apply below_alloc)) hb⟩; have HX1 : Aside0 (Box w1 (w.heap.size + 1 + 1)) := ⟨(hb.block _ (by first | (simp; done) | (simp; omega))).trans (by repeat (first | exact blk_at _ _ _ (by simp; done) | (refine (Below.heap_alloc _ _ _ (by first | (simp; done) | (simp; omega))).trans ?_)))⟩; have q0 := HX1.out.c0; have q1 := HX1.out.c1; have q2 := HX1.out.c2; have q3 := HX1.out.c3; have q4 := HX1.out.c4; have q5 := HX1.out.c5; have q6 := HX1.out.c6; have q7 := HX1.out.fr; clear hV hb)
  (try simp only [Exit.inBlock, Exit.then])
  have hd := HX1.out.done (.int .i64 r.f0) (.bool r.f1) (.int .i64 r.f2) (.string r.f3) (.string r.f4.f0) (.string r.f4.f1) (.slice A6 r.f5.length c6)
  have hbl := HB1.out.trans (below_cells (B := w.heap.size) (w.heap.size + 1 + 1) (by omega) [.int .i64 r.f0, .bool r.f1, .int .i64 r.f2, .string r.f3, .string r.f4.f0, .string r.f4.f1, .slice A6 r.f5.length c6] 0 w1)
  simp only [World.setCells] at hd hbl
  refine bodyPost_ret (results_row_tmp rfl _ _ (w.heap.size + 1 + 1) 31 _ (0, 0) _ rfl hd Try.underlying31 rfl (by kernel_rfl)) rfl ?_
  exact ⟨_, rfl, Kd.V_mono (Kd.V_step HV.out (fun k_ hk _ => heap_after7 _ _ _ _ _ _ _ (by omega))) (fun k_ hk => by omega), hbl⟩
end Go.Proofs.Ytfmghijmcgkpiaa.GE
