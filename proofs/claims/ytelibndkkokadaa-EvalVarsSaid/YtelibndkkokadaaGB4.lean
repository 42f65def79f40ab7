-- Written by wip/tools/gprint.py over the kit's printer.
import Derived.Test.YtelibndkkokadaaGB0
import Derived.Test.YtelibndkkokadaaGB3
import Derived.Test.YtelibndkkokadaaSqz
namespace Go.Proofs.Ytelibndkkokadaa.GB
open Go.RowKit Go.Proofs.YtelibndkkokadaaW.PrintWords Go.Proofs.YtelibndkkokadaaW.PrintLast Go.Proofs.Ytelibndkkokadaa.HandV Go.Proofs.YtelibndkkokadaaW.PrintMore
attribute [local go_sem] max2_int min2_int max_two min_two max_three min_three max_four min_four   -- for this text's walks alone
set_option linter.unusedVariables false
set_option linter.unusedSimpArgs false

/-! ### chancelref1_put: function 149 -/
def chancelref1_put.f (l0 : List Int) (a1 : Int) : Option (List Int) := if a1 < 128 then (if l0.length < 140737488355328 then (some (l0 ++ [(a1) % 256])) else (none)) else (if a1 < 2048 then ((some (([Go.bits .or .u8 192 ((a1 / 64) % 256), Go.bits .or .u8 128 ((Go.bits .and .i32 a1 63) % 256)] : List Int) : List Int)).bind fun y156 => (if l0.length + y156.length < 140737488355328 then (some (l0 ++ y156)) else (none))) else (if a1 < 65536 then ((some (([Go.bits .or .u8 224 ((a1 / 4096) % 256), Go.bits .or .u8 128 ((Go.bits .and .i32 (a1 / 64) 63) % 256), Go.bits .or .u8 128 ((Go.bits .and .i32 a1 63) % 256)] : List Int) : List Int)).bind fun y162 => (if l0.length + y162.length < 140737488355328 then (some (l0 ++ y162)) else (none))) else ((some (([Go.bits .or .u8 240 ((a1 / 262144) % 256), Go.bits .or .u8 128 ((Go.bits .and .i32 (a1 / 4096) 63) % 256), Go.bits .or .u8 128 ((Go.bits .and .i32 (a1 / 64) 63) % 256), Go.bits .or .u8 128 ((Go.bits .and .i32 a1 63) % 256)] : List Int) : List Int)).bind fun y168 => (if l0.length + y168.length < 140737488355328 then (some (l0 ++ y168)) else (none)))))
set_option maxHeartbeats 8000000 in
set_option maxRecDepth 100000 in
theorem chancelref1_put.calls (P0_ : Nat → Prop) (u9000_ : Value) (l0 : List Int) (a1 : Int) (r : List Int) (w0 w : World) (hB : Below w0.heap.size w0 w) (ho0 : Kd.R (Kd.int .u8) 5 w w0.heap.size P0_ u9000_ l0) (h : chancelref1_put.f l0 a1 = some r) :
  Calls Try.prog 149 #[u9000_, .int .i32 a1] w fun e w' => ∃ v0_ : Value, e = .returned (v0_) ∧ Kd.R (Kd.int .u8) 5 w' w0.heap.size (fun k_ => (P0_ k_ ∨ w.heap.size ≤ k_)) v0_ r ∧ Below w0.heap.size w0 w' ∧ Kept w w' (fun k_ => P0_ k_) := by
 have HO0 := aZ_ (show Kd.R (Kd.int .u8) 5 w w0.heap.size (fun k_ => (P0_ k_ ∨ w.heap.size ≤ k_)) u9000_ l0 from Kd.R_mono ho0 (fun k_ hk => (.inl hk)))
 have HK := aZ_ (Kept.refl w (fun k_ => P0_ k_))
 have HW0 := aZ_ hB.size
 have HB := aZ_ hB
 clear hB
 have H : (if a1 < 128 then (if l0.length < 140737488355328 then (some (l0 ++ [(a1) % 256])) else (none)) else (if a1 < 2048 then ((some (([Go.bits .or .u8 192 ((a1 / 64) % 256), Go.bits .or .u8 128 ((Go.bits .and .i32 a1 63) % 256)] : List Int) : List Int)).bind fun y156 => (if l0.length + y156.length < 140737488355328 then (some (l0 ++ y156)) else (none))) else (if a1 < 65536 then ((some (([Go.bits .or .u8 224 ((a1 / 4096) % 256), Go.bits .or .u8 128 ((Go.bits .and .i32 (a1 / 64) 63) % 256), Go.bits .or .u8 128 ((Go.bits .and .i32 a1 63) % 256)] : List Int) : List Int)).bind fun y162 => (if l0.length + y162.length < 140737488355328 then (some (l0 ++ y162)) else (none))) else ((some (([Go.bits .or .u8 240 ((a1 / 262144) % 256), Go.bits .or .u8 128 ((Go.bits .and .i32 (a1 / 4096) 63) % 256), Go.bits .or .u8 128 ((Go.bits .and .i32 (a1 / 64) 63) % 256), Go.bits .or .u8 128 ((Go.bits .and .i32 a1 63) % 256)] : List Int) : List Int)).bind fun y168 => (if l0.length + y168.length < 140737488355328 then (some (l0 ++ y168)) else (none)))))) = some r := h
 clear h
 by_cases c3 : a1 < 128
 ·
  rw [if_pos c3] at H
  have c3b0 : decide (a1 < 128) = true := decide_eq_true c3
  clear c3
  by_cases c4 : l0.length < 140737488355328
  ·
   rw [if_pos c4] at H
   have LMc4 := aZ_ c4
   clear c4
   obtain ⟨y153, hy153⟩ : ∃ y_ : List Int, y_ = (l0 ++ [(a1) % 256]) := ⟨_, rfl⟩
   replace H : (some y153) = some r := by first | (rw [hy153]; with_reducible exact H) | (have H2_ := (Option.bind_some _ _).symm.trans H; rw [hy153]; with_reducible exact H2_) | (have H2_ := (Option.bind_some _ _).symm.trans H; with_reducible exact H2_) | with_reducible exact H | (rw [hy153]; exact H) | exact H
   have Ny153 := aZ_ hy153
   clear hy153
   obtain rfl := Option.some.inj H
   go_enter Try.func149, Try.ntmps149
   go_wp2_with (first | ((with_reducible refine gate_builtin (b := .append) (xs := #[.tmp 8, .tmp 11]) rfl ?_); at_builtin; refine Kd.R_append (Kd.int .u8) (w0 := w0) w0.heap.size rfl (.tmp 8) (.tmp 11) 45 5 (.int .u8 0) 1 rfl Try.underlying45 info5 rfl (by decide) (by omega) u9000_ l0 ((a1) % 256) [.int .u8 ((a1) % 256)] (fun k_ => (P0_ k_ ∨ w.heap.size ≤ k_)) (fun _ => False) rfl rfl ?aP (fun _ hk => hk.elim) ?aF ?aO ?aB ?aS ?aL ?_; (case aP => exact rfl); (case aB => exact (bl HB)); (case aF => exact (fun k_ hk => (.inr (Nat.le_trans (by first | exact HK.out.1 | exact (show Kept w _ (fun k_ => P0_ k_) from by repeat (first | (with_reducible first | exact HK.out | apply Kept.alloc | apply Kept.drewN | apply Kept.drew) | exact HK.out)).1) hk)))); (case aO => exact (kR HO0)); (case aS => exact (below_size (bl HB))); (case aL => have := LMc4.out; omega); intro v154 w5 ho hb hg hat; rw [← Ny153.out] at ho; replace HB := aZ_ (hb); replace HK := aZ_ (Kept.of_grown (S := (fun k_ => P0_ k_)) hg (by repeat (first | (with_reducible first | exact HK.out | apply Kept.alloc | apply Kept.drewN | apply Kept.drew) | exact HK.out)) (fun k_ e_ => (HO0.out.1 k_ e_))); have HO155 := aZ_ (ho); clear HO0; clear ho hb hg hat))
   go_ret
   exact ⟨_, by first | rfl | (simp [errW_none, errW_some] <;> rfl) | (simp [*, errW_none, errW_some] <;> rfl), by (with_reducible repeat (first | apply Kd.R_alloc | apply Kd.R_drewN | apply Kd.R_drew)); exact HO155.out, bl HB, by repeat (first | (with_reducible first | exact HK.out | apply Kept.alloc | apply Kept.drewN | apply Kept.drew) | exact HK.out)⟩
  ·
   rw [if_neg c4] at H
   exact absurd H (by simp)
 ·
  rw [if_neg c3] at H
  have c3b0 : decide (a1 < 128) = false := decide_eq_false c3
  clear c3
  by_cases c6 : a1 < 2048
  ·
   rw [if_pos c6] at H
   have c6b0 : decide (a1 < 2048) = true := decide_eq_true c6
   clear c6
   obtain ⟨y156, hy156⟩ : ∃ y_ : List Int, y_ = (([Go.bits .or .u8 192 ((a1 / 64) % 256), Go.bits .or .u8 128 ((Go.bits .and .i32 a1 63) % 256)] : List Int)) := ⟨_, rfl⟩
   replace H : (if l0.length + y156.length < 140737488355328 then (some (l0 ++ y156)) else (none)) = some r := by first | (rw [hy156]; with_reducible exact H) | (have H2_ := (Option.bind_some _ _).symm.trans H; rw [hy156]; with_reducible exact H2_) | (have H2_ := (Option.bind_some _ _).symm.trans H; with_reducible exact H2_) | with_reducible exact H | (rw [hy156]; exact H) | exact H
   have Ny156 := aZ_ hy156
   clear hy156
   by_cases c7 : l0.length + y156.length < 140737488355328
   ·
    rw [if_pos c7] at H
    have LMc7 := aZ_ c7
    clear c7
    obtain ⟨y159, hy159⟩ : ∃ y_ : List Int, y_ = (l0 ++ y156) := ⟨_, rfl⟩
    replace H : (some y159) = some r := by first | (rw [hy159]; with_reducible exact H) | (have H2_ := (Option.bind_some _ _).symm.trans H; rw [hy159]; with_reducible exact H2_) | (have H2_ := (Option.bind_some _ _).symm.trans H; with_reducible exact H2_) | with_reducible exact H | (rw [hy159]; exact H) | exact H
    have Ny159 := aZ_ hy159
    clear hy159
    obtain rfl := Option.some.inj H
    go_enter Try.func149, Try.ntmps149
    go_wp2_with (first | ((with_reducible refine gate_dst (N := 25) rfl ?_); refine Kd.R_lit (Kd.int .u8) _ 5 ?hg (N := 25) ?hd (xs := ([Go.bits .or .u8 192 ((a1 / 64) % 256), Go.bits .or .u8 128 ((Go.bits .and .i32 a1 63) % 256)] : List Int)) (inner := [.int .u8 (Go.bits .or .u8 192 ((a1 / 64) % 256)), .int .u8 (Go.bits .or .u8 128 ((Go.bits .and .i32 a1 63) % 256))]) (ok := fun _ => True) (okp := fun _ => True) ?hr ?hp (fun _ hk => hk) trivial (Below.refl _ _) (Nat.le_refl _) (by simp) ?_; (case hd => rfl); (case hg => rfl); (case hr => first | (go_simp; done) | (go_simp; rfl)); (case hp => exact (Reps.one (show Kd.M (Kd.int .u8) _ _ _ (Go.bits .or .u8 192 ((a1 / 64) % 256)) [.int .u8 (Go.bits .or .u8 192 ((a1 / 64) % 256))] from rfl) (Reps.one (show Kd.M (Kd.int .u8) _ _ _ (Go.bits .or .u8 128 ((Go.bits .and .i32 a1 63) % 256)) [.int .u8 (Go.bits .or .u8 128 ((Go.bits .and .i32 a1 63) % 256))] from rfl) (Reps.none _ _)))); intro v157 w8 ho9 hb hg_ hnew_; clear hg_ hnew_; (first | rw [← Ny156.out] at ho9 | (simp only [Int.reduceToNat] at ho9; rw [← Ny156.out] at ho9)); have HO158 := aZ_ (Kd.R_lower (Kd.R_new' (Kd.R_newM (M := fun k_ => (P0_ k_ ∨ w.heap.size ≤ k_)) ho9 (by first | exact HK.out.1 | exact (show Kept w _ (fun k_ => P0_ k_) from by repeat (first | (with_reducible first | exact HK.out | apply Kept.alloc | apply Kept.drewN | apply Kept.drew) | exact HK.out)).1) (fun k_ h_ => .inr h_)) (Kd.R_lt (kR HO0))) (below_size (bl HB))); replace HO0 := aZ_ (Kd.R_elder' (kR HO0) (Kd.R_base ho9) hb); replace HK := aZ_ (Kept.below (S := (fun k_ => P0_ k_)) (by repeat (first | (with_reducible first | exact HK.out | apply Kept.alloc | apply Kept.drewN | apply Kept.drew) | exact HK.out)) hb); replace HB := aZ_ (below_step (bl HB) hb); clear hb ho9; obtain ⟨Ao11, co11, eo11⟩ := Kd.R_slice HO158.out; subst eo11) | ((with_reducible refine gate_builtin (b := .append) (xs := #[.tmp 16, .tmp 25]) rfl ?_); at_builtin; refine Kd.R_append_rows (Kd.int .u8) (w0 := w0) w0.heap.size rfl (.tmp 16) (.tmp 25) 45 5 (.int .u8 0) 1 rfl Try.underlying45 info5 rfl (by decide) (by omega) u9000_ l0 y156 _ _ _ (fun k_ => (P0_ k_ ∨ w.heap.size ≤ k_) ∧ some k_ ≠ (.slice Ao11 y156.length co11 : Value).ownBlock) (fun _ => False) rfl rfl ?aO ?aR (fun _ _ h => h) (fun _ h => h.elim) ?aF ?aB ?aS ?aL ?_; (case aR => repeat (first | exact (Kd.R_reads' HO158.out).2.2 | (with_reducible refine Kd.C_alloc ?_ _) | (with_reducible refine Kd.C_drewN ?_ _) | (with_reducible refine Kd.C_drew ?_))); (case aB => exact (bl HB)); (case aF => exact (fun k_ hk => ⟨(.inr (Nat.le_trans (by first | exact HK.out.1 | exact (show Kept w _ (fun k_ => P0_ k_) from by repeat (first | (with_reducible first | exact HK.out | apply Kept.alloc | apply Kept.drewN | apply Kept.drew) | exact HK.out)).1) hk)), Kd.fresh' (Kd.R_lt (kR HO158)) k_ hk⟩)); (case aO => exact (kR HO0)); (case aS => exact (below_size (bl HB))); (case aL => have := LMc7.out; omega); intro v160 w10 ho hb hg hat; rw [← Ny159.out] at ho; replace HO158 := aZ_ (Kd.R_after (ok := (fun k_ => (P0_ k_ ∨ w.heap.size ≤ k_))) (by (with_reducible repeat (first | apply Kd.R_alloc | apply Kd.R_drewN | apply Kd.R_drew)); exact Kd.R_mono HO158.out (fun _ hk => ⟨hk.1.1, hk.2⟩)) hg hat); replace HB := aZ_ (hb); replace HK := aZ_ (Kept.of_grown (S := (fun k_ => P0_ k_)) hg (by repeat (first | (with_reducible first | exact HK.out | apply Kept.alloc | apply Kept.drewN | apply Kept.drew) | exact HK.out)) (fun k_ e_ => (HO0.out.1 k_ e_).1)); have HO161 := aZ_ (ho); clear HO0; clear ho hb hg hat))
    go_ret
    exact ⟨_, by first | rfl | (simp [errW_none, errW_some] <;> rfl) | (simp [*, errW_none, errW_some] <;> rfl), by (with_reducible repeat (first | apply Kd.R_alloc | apply Kd.R_drewN | apply Kd.R_drew)); exact Kd.R_mono HO161.out (fun _ hk => hk.1), bl HB, by repeat (first | (with_reducible first | exact HK.out | apply Kept.alloc | apply Kept.drewN | apply Kept.drew) | exact HK.out)⟩
   ·
    rw [if_neg c7] at H
    exact absurd H (by simp)
  ·
   rw [if_neg c6] at H
   have c6b0 : decide (a1 < 2048) = false := decide_eq_false c6
   clear c6
   by_cases c12 : a1 < 65536
   ·
    rw [if_pos c12] at H
    have c12b0 : decide (a1 < 65536) = true := decide_eq_true c12
    clear c12
    obtain ⟨y162, hy162⟩ : ∃ y_ : List Int, y_ = (([Go.bits .or .u8 224 ((a1 / 4096) % 256), Go.bits .or .u8 128 ((Go.bits .and .i32 (a1 / 64) 63) % 256), Go.bits .or .u8 128 ((Go.bits .and .i32 a1 63) % 256)] : List Int)) := ⟨_, rfl⟩
    replace H : (if l0.length + y162.length < 140737488355328 then (some (l0 ++ y162)) else (none)) = some r := by first | (rw [hy162]; with_reducible exact H) | (have H2_ := (Option.bind_some _ _).symm.trans H; rw [hy162]; with_reducible exact H2_) | (have H2_ := (Option.bind_some _ _).symm.trans H; with_reducible exact H2_) | with_reducible exact H | (rw [hy162]; exact H) | exact H
    have Ny162 := aZ_ hy162
    clear hy162
    by_cases c13 : l0.length + y162.length < 140737488355328
    ·
     rw [if_pos c13] at H
     have LMc13 := aZ_ c13
     clear c13
     obtain ⟨y165, hy165⟩ : ∃ y_ : List Int, y_ = (l0 ++ y162) := ⟨_, rfl⟩
     replace H : (some y165) = some r := by first | (rw [hy165]; with_reducible exact H) | (have H2_ := (Option.bind_some _ _).symm.trans H; rw [hy165]; with_reducible exact H2_) | (have H2_ := (Option.bind_some _ _).symm.trans H; with_reducible exact H2_) | with_reducible exact H | (rw [hy165]; exact H) | exact H
     have Ny165 := aZ_ hy165
     clear hy165
     obtain rfl := Option.some.inj H
     go_enter Try.func149, Try.ntmps149
     go_wp2_with (first | ((with_reducible refine gate_dst (N := 44) rfl ?_); refine Kd.R_lit (Kd.int .u8) _ 5 ?hg (N := 44) ?hd (xs := ([Go.bits .or .u8 224 ((a1 / 4096) % 256), Go.bits .or .u8 128 ((Go.bits .and .i32 (a1 / 64) 63) % 256), Go.bits .or .u8 128 ((Go.bits .and .i32 a1 63) % 256)] : List Int)) (inner := [.int .u8 (Go.bits .or .u8 224 ((a1 / 4096) % 256)), .int .u8 (Go.bits .or .u8 128 ((Go.bits .and .i32 (a1 / 64) 63) % 256)), .int .u8 (Go.bits .or .u8 128 ((Go.bits .and .i32 a1 63) % 256))]) (ok := fun _ => True) (okp := fun _ => True) ?hr ?hp (fun _ hk => hk) trivial (Below.refl _ _) (Nat.le_refl _) (by simp) ?_; (case hd => rfl); (case hg => rfl); (case hr => first | (go_simp; done) | (go_simp; rfl)); (case hp => exact (Reps.one (show Kd.M (Kd.int .u8) _ _ _ (Go.bits .or .u8 224 ((a1 / 4096) % 256)) [.int .u8 (Go.bits .or .u8 224 ((a1 / 4096) % 256))] from rfl) (Reps.one (show Kd.M (Kd.int .u8) _ _ _ (Go.bits .or .u8 128 ((Go.bits .and .i32 (a1 / 64) 63) % 256)) [.int .u8 (Go.bits .or .u8 128 ((Go.bits .and .i32 (a1 / 64) 63) % 256))] from rfl) (Reps.one (show Kd.M (Kd.int .u8) _ _ _ (Go.bits .or .u8 128 ((Go.bits .and .i32 a1 63) % 256)) [.int .u8 (Go.bits .or .u8 128 ((Go.bits .and .i32 a1 63) % 256))] from rfl) (Reps.none _ _))))); intro v163 w14 ho15 hb hg_ hnew_; clear hg_ hnew_; (first | rw [← Ny162.out] at ho15 | (simp only [Int.reduceToNat] at ho15; rw [← Ny162.out] at ho15)); have HO164 := aZ_ (Kd.R_lower (Kd.R_new' (Kd.R_newM (M := fun k_ => (P0_ k_ ∨ w.heap.size ≤ k_)) ho15 (by first | exact HK.out.1 | exact (show Kept w _ (fun k_ => P0_ k_) from by repeat (first | (with_reducible first | exact HK.out | apply Kept.alloc | apply Kept.drewN | apply Kept.drew) | exact HK.out)).1) (fun k_ h_ => .inr h_)) (Kd.R_lt (kR HO0))) (below_size (bl HB))); replace HO0 := aZ_ (Kd.R_elder' (kR HO0) (Kd.R_base ho15) hb); replace HK := aZ_ (Kept.below (S := (fun k_ => P0_ k_)) (by repeat (first | (with_reducible first | exact HK.out | apply Kept.alloc | apply Kept.drewN | apply Kept.drew) | exact HK.out)) hb); replace HB := aZ_ (below_step (bl HB) hb); clear hb ho15; obtain ⟨Ao17, co17, eo17⟩ := Kd.R_slice HO164.out; subst eo17) | ((with_reducible refine gate_builtin (b := .append) (xs := #[.tmp 30, .tmp 44]) rfl ?_); at_builtin; refine Kd.R_append_rows (Kd.int .u8) (w0 := w0) w0.heap.size rfl (.tmp 30) (.tmp 44) 45 5 (.int .u8 0) 1 rfl Try.underlying45 info5 rfl (by decide) (by omega) u9000_ l0 y162 _ _ _ (fun k_ => (P0_ k_ ∨ w.heap.size ≤ k_) ∧ some k_ ≠ (.slice Ao17 y162.length co17 : Value).ownBlock) (fun _ => False) rfl rfl ?aO ?aR (fun _ _ h => h) (fun _ h => h.elim) ?aF ?aB ?aS ?aL ?_; (case aR => repeat (first | exact (Kd.R_reads' HO164.out).2.2 | (with_reducible refine Kd.C_alloc ?_ _) | (with_reducible refine Kd.C_drewN ?_ _) | (with_reducible refine Kd.C_drew ?_))); (case aB => exact (bl HB)); (case aF => exact (fun k_ hk => ⟨(.inr (Nat.le_trans (by first | exact HK.out.1 | exact (show Kept w _ (fun k_ => P0_ k_) from by repeat (first | (with_reducible first | exact HK.out | apply Kept.alloc | apply Kept.drewN | apply Kept.drew) | exact HK.out)).1) hk)), Kd.fresh' (Kd.R_lt (kR HO164)) k_ hk⟩)); (case aO => exact (kR HO0)); (case aS => exact (below_size (bl HB))); (case aL => have := LMc13.out; omega); intro v166 w16 ho hb hg hat; rw [← Ny165.out] at ho; replace HO164 := aZ_ (Kd.R_after (ok := (fun k_ => (P0_ k_ ∨ w.heap.size ≤ k_))) (by (with_reducible repeat (first | apply Kd.R_alloc | apply Kd.R_drewN | apply Kd.R_drew)); exact Kd.R_mono HO164.out (fun _ hk => ⟨hk.1.1, hk.2⟩)) hg hat); replace HB := aZ_ (hb); replace HK := aZ_ (Kept.of_grown (S := (fun k_ => P0_ k_)) hg (by repeat (first | (with_reducible first | exact HK.out | apply Kept.alloc | apply Kept.drewN | apply Kept.drew) | exact HK.out)) (fun k_ e_ => (HO0.out.1 k_ e_).1)); have HO167 := aZ_ (ho); clear HO0; clear ho hb hg hat))
     go_ret
     exact ⟨_, by first | rfl | (simp [errW_none, errW_some] <;> rfl) | (simp [*, errW_none, errW_some] <;> rfl), by (with_reducible repeat (first | apply Kd.R_alloc | apply Kd.R_drewN | apply Kd.R_drew)); exact Kd.R_mono HO167.out (fun _ hk => hk.1), bl HB, by repeat (first | (with_reducible first | exact HK.out | apply Kept.alloc | apply Kept.drewN | apply Kept.drew) | exact HK.out)⟩
    ·
     rw [if_neg c13] at H
     exact absurd H (by simp)
   ·
    rw [if_neg c12] at H
    have c12b0 : decide (a1 < 65536) = false := decide_eq_false c12
    clear c12
    obtain ⟨y168, hy168⟩ : ∃ y_ : List Int, y_ = (([Go.bits .or .u8 240 ((a1 / 262144) % 256), Go.bits .or .u8 128 ((Go.bits .and .i32 (a1 / 4096) 63) % 256), Go.bits .or .u8 128 ((Go.bits .and .i32 (a1 / 64) 63) % 256), Go.bits .or .u8 128 ((Go.bits .and .i32 a1 63) % 256)] : List Int)) := ⟨_, rfl⟩
    replace H : (if l0.length + y168.length < 140737488355328 then (some (l0 ++ y168)) else (none)) = some r := by first | (rw [hy168]; with_reducible exact H) | (have H2_ := (Option.bind_some _ _).symm.trans H; rw [hy168]; with_reducible exact H2_) | (have H2_ := (Option.bind_some _ _).symm.trans H; with_reducible exact H2_) | with_reducible exact H | (rw [hy168]; exact H) | exact H
    have Ny168 := aZ_ hy168
    clear hy168
    by_cases c18 : l0.length + y168.length < 140737488355328
    ·
     rw [if_pos c18] at H
     have LMc18 := aZ_ c18
     clear c18
     obtain ⟨y171, hy171⟩ : ∃ y_ : List Int, y_ = (l0 ++ y168) := ⟨_, rfl⟩
     replace H : (some y171) = some r := by first | (rw [hy171]; with_reducible exact H) | (have H2_ := (Option.bind_some _ _).symm.trans H; rw [hy171]; with_reducible exact H2_) | (have H2_ := (Option.bind_some _ _).symm.trans H; with_reducible exact H2_) | with_reducible exact H | (rw [hy171]; exact H) | exact H
     have Ny171 := aZ_ hy171
     clear hy171
     obtain rfl := Option.some.inj H
     go_enter Try.func149, Try.ntmps149
     go_wp2_with (first | ((with_reducible refine gate_dst (N := 65) rfl ?_); refine Kd.R_lit (Kd.int .u8) _ 5 ?hg (N := 65) ?hd (xs := ([Go.bits .or .u8 240 ((a1 / 262144) % 256), Go.bits .or .u8 128 ((Go.bits .and .i32 (a1 / 4096) 63) % 256), Go.bits .or .u8 128 ((Go.bits .and .i32 (a1 / 64) 63) % 256), Go.bits .or .u8 128 ((Go.bits .and .i32 a1 63) % 256)] : List Int)) (inner := [.int .u8 (Go.bits .or .u8 240 ((a1 / 262144) % 256)), .int .u8 (Go.bits .or .u8 128 ((Go.bits .and .i32 (a1 / 4096) 63) % 256)), .int .u8 (Go.bits .or .u8 128 ((Go.bits .and .i32 (a1 / 64) 63) % 256)), .int .u8 (Go.bits .or .u8 128 ((Go.bits .and .i32 a1 63) % 256))]) (ok := fun _ => True) (okp := fun _ => True) ?hr ?hp (fun _ hk => hk) trivial (Below.refl _ _) (Nat.le_refl _) (by simp) ?_; (case hd => rfl); (case hg => rfl); (case hr => first | (go_simp; done) | (go_simp; rfl)); (case hp => exact (Reps.one (show Kd.M (Kd.int .u8) _ _ _ (Go.bits .or .u8 240 ((a1 / 262144) % 256)) [.int .u8 (Go.bits .or .u8 240 ((a1 / 262144) % 256))] from rfl) (Reps.one (show Kd.M (Kd.int .u8) _ _ _ (Go.bits .or .u8 128 ((Go.bits .and .i32 (a1 / 4096) 63) % 256)) [.int .u8 (Go.bits .or .u8 128 ((Go.bits .and .i32 (a1 / 4096) 63) % 256))] from rfl) (Reps.one (show Kd.M (Kd.int .u8) _ _ _ (Go.bits .or .u8 128 ((Go.bits .and .i32 (a1 / 64) 63) % 256)) [.int .u8 (Go.bits .or .u8 128 ((Go.bits .and .i32 (a1 / 64) 63) % 256))] from rfl) (Reps.one (show Kd.M (Kd.int .u8) _ _ _ (Go.bits .or .u8 128 ((Go.bits .and .i32 a1 63) % 256)) [.int .u8 (Go.bits .or .u8 128 ((Go.bits .and .i32 a1 63) % 256))] from rfl) (Reps.none _ _)))))); intro v169 w19 ho20 hb hg_ hnew_; clear hg_ hnew_; (first | rw [← Ny168.out] at ho20 | (simp only [Int.reduceToNat] at ho20; rw [← Ny168.out] at ho20)); have HO170 := aZ_ (Kd.R_lower (Kd.R_new' (Kd.R_newM (M := fun k_ => (P0_ k_ ∨ w.heap.size ≤ k_)) ho20 (by first | exact HK.out.1 | exact (show Kept w _ (fun k_ => P0_ k_) from by repeat (first | (with_reducible first | exact HK.out | apply Kept.alloc | apply Kept.drewN | apply Kept.drew) | exact HK.out)).1) (fun k_ h_ => .inr h_)) (Kd.R_lt (kR HO0))) (below_size (bl HB))); replace HO0 := aZ_ (Kd.R_elder' (kR HO0) (Kd.R_base ho20) hb); replace HK := aZ_ (Kept.below (S := (fun k_ => P0_ k_)) (by repeat (first | (with_reducible first | exact HK.out | apply Kept.alloc | apply Kept.drewN | apply Kept.drew) | exact HK.out)) hb); replace HB := aZ_ (below_step (bl HB) hb); clear hb ho20; obtain ⟨Ao22, co22, eo22⟩ := Kd.R_slice HO170.out; subst eo22) | ((with_reducible refine gate_builtin (b := .append) (xs := #[.tmp 46, .tmp 65]) rfl ?_); at_builtin; refine Kd.R_append_rows (Kd.int .u8) (w0 := w0) w0.heap.size rfl (.tmp 46) (.tmp 65) 45 5 (.int .u8 0) 1 rfl Try.underlying45 info5 rfl (by decide) (by omega) u9000_ l0 y168 _ _ _ (fun k_ => (P0_ k_ ∨ w.heap.size ≤ k_) ∧ some k_ ≠ (.slice Ao22 y168.length co22 : Value).ownBlock) (fun _ => False) rfl rfl ?aO ?aR (fun _ _ h => h) (fun _ h => h.elim) ?aF ?aB ?aS ?aL ?_; (case aR => repeat (first | exact (Kd.R_reads' HO170.out).2.2 | (with_reducible refine Kd.C_alloc ?_ _) | (with_reducible refine Kd.C_drewN ?_ _) | (with_reducible refine Kd.C_drew ?_))); (case aB => exact (bl HB)); (case aF => exact (fun k_ hk => ⟨(.inr (Nat.le_trans (by first | exact HK.out.1 | exact (show Kept w _ (fun k_ => P0_ k_) from by repeat (first | (with_reducible first | exact HK.out | apply Kept.alloc | apply Kept.drewN | apply Kept.drew) | exact HK.out)).1) hk)), Kd.fresh' (Kd.R_lt (kR HO170)) k_ hk⟩)); (case aO => exact (kR HO0)); (case aS => exact (below_size (bl HB))); (case aL => have := LMc18.out; omega); intro v172 w21 ho hb hg hat; rw [← Ny171.out] at ho; replace HO170 := aZ_ (Kd.R_after (ok := (fun k_ => (P0_ k_ ∨ w.heap.size ≤ k_))) (by (with_reducible repeat (first | apply Kd.R_alloc | apply Kd.R_drewN | apply Kd.R_drew)); exact Kd.R_mono HO170.out (fun _ hk => ⟨hk.1.1, hk.2⟩)) hg hat); replace HB := aZ_ (hb); replace HK := aZ_ (Kept.of_grown (S := (fun k_ => P0_ k_)) hg (by repeat (first | (with_reducible first | exact HK.out | apply Kept.alloc | apply Kept.drewN | apply Kept.drew) | exact HK.out)) (fun k_ e_ => (HO0.out.1 k_ e_).1)); have HO173 := aZ_ (ho); clear HO0; clear ho hb hg hat))
     go_ret
     exact ⟨_, by first | rfl | (simp [errW_none, errW_some] <;> rfl) | (simp [*, errW_none, errW_some] <;> rfl), by (with_reducible repeat (first | apply Kd.R_alloc | apply Kd.R_drewN | apply Kd.R_drew)); exact Kd.R_mono HO173.out (fun _ hk => hk.1), bl HB, by repeat (first | (with_reducible first | exact HK.out | apply Kept.alloc | apply Kept.drewN | apply Kept.drew) | exact HK.out)⟩
    ·
     rw [if_neg c18] at H
     exact absurd H (by simp)

/-! ### chancelref1_Of: function 127 -/
def chancelref1_Of.l0 : Nat → List Int → List Int → Int → Option (ByteArray × Int)
 | 0, _, _, _ => none
 | k + 1, x0, x4, x5 => if x5 < (x0.length : Int) then (if 0 ≤ x5 then ((chancelref1_Is.f (rd x0 x5)).bind fun t175 => (if t175 = true then ((chancelref1_put.f x4 (rd x0 x5)).bind fun t177 => (chancelref1_Of.l0 k x0 t177 (wrap64 (x5 + 1)))) else (some ((⟨#[]⟩ : ByteArray), 11)))) else (none)) else (some (strOfNums x4, 0))
def chancelref1_Of.f (k : Nat) (l0 : List Int) : Option (ByteArray × Int) := chancelref1_Of.l0 k l0 ([] : List Int) 0
theorem chancelref1_Of.mono_l : ∀ k, (∀ y0 y1 y2, LeO (chancelref1_Of.l0 k y0 y1 y2) (chancelref1_Of.l0 (k + 1) y0 y1 y2))
 | 0 => fun _ _ _ r h => by simp [chancelref1_Of.l0] at h
 | k + 1 => by
  have ih0 := chancelref1_Of.mono_l k
  ·
   intro y0 y1 y2
   unfold chancelref1_Of.l0
   repeat' first
   | (with_reducible exact ih0 _ _ _)
   | (with_reducible exact LeO.refl _)
   | (with_reducible exact LeO.none _)
   | (with_reducible refine LeO.ite ?_ ?_)
   | (with_reducible refine LeO.bind ?_ (fun _ => ?_))
   | exact ih0 _ _ _
   | exact LeO.none _
   | refine LeO.ite ?_ ?_
   | refine LeO.bind ?_ (fun _ => ?_)
theorem chancelref1_Of.mono : ∀ a0 k, LeO (chancelref1_Of.f k a0) (chancelref1_Of.f (k + 1) a0) := by
 intro a0 k
 have ih0 := chancelref1_Of.mono_l k
 unfold chancelref1_Of.f
 repeat' first
   | (with_reducible exact ih0 _ _ _)
   | (with_reducible exact LeO.refl _)
   | (with_reducible exact LeO.none _)
   | (with_reducible refine LeO.ite ?_ ?_)
   | (with_reducible refine LeO.bind ?_ (fun _ => ?_))
   | exact ih0 _ _ _
   | exact LeO.none _
   | refine LeO.ite ?_ ?_
   | refine LeO.bind ?_ (fun _ => ?_)
set_option maxHeartbeats 8000000 in
set_option maxRecDepth 100000 in
theorem chancelref1_Of.calls (k : Nat) (A0 : Option Addr) (c0 : Nat) (l0 : List Int) (r1 : ByteArray) (r2 : Int) (w : World) (hr0 : Kd.C (Kd.int .i32) w A0 l0.length l0) (hc0 : l0.length ≤ c0) (h : chancelref1_Of.f k l0 = some (r1, r2)) :
  Calls Try.prog 127 #[.slice A0 l0.length c0] w fun e w' => e = .returned (.tuple #[.string r1, .int .i64 r2]) ∧ Below w.heap.size w w' := by
 have HR0 := aZ_ hr0
 have HC0 := aZ_ hc0
 clear hr0 hc0
 have HB := aZ_ (Below.refl w.heap.size w)
 have H : (chancelref1_Of.l0 k l0 ([] : List Int) 0) = some (r1, r2) := h
 clear h
 have H' := aZ_ H
 clear H
 go_enter Try.func127, Try.ntmps127
 go_wp2
 go_loopg [4, 5] k (fun kq v4 v5 w' => ∃ (x4_1 : List Int) (x5_1 : Int), v5 = .int .i64 x5_1 ∧ Aside0 (chancelref1_Of.l0 kq l0 x4_1 x5_1 = some (r1, r2)) ∧ Aside0 (kq ≤ k) ∧ Aside0 (Kd.R (Kd.int .u8) 5 w' w.heap.size (fun _ => True) v4 x4_1) ∧ Aside0 (Below w.heap.size w w'))
 case atStart => exact ⟨(([] : List Int)), (0), rf_, H', ⟨Nat.le_refl _⟩, ⟨by first | exact Kd.R_nil _ _ _ _ _ | exact Kd.N_nil _ _ _ _ _ | exact Kd.V_nil _ _ _ _ _ | exact Kd.Q_nil _ _ _ _ _ | exact Kd.S_nil _ _ _ _ _⟩, ⟨bl HB⟩⟩
 case round =>
  clear H'
  try clear c1
  obtain ⟨x4_1, x5_1, rfl, HA, HK1, HO_4, HB⟩ := hrel
  cases gk with
  | zero => exact absurd HA.out (by simp [chancelref1_Of.l0])
  | succ k1 =>
   have H := HA.out
   clear HA
   simp only [chancelref1_Of.l0] at H
   by_cases c2 : x5_1 < (l0.length : Int)
   ·
    rw [if_pos c2] at H
    have c2b0 : decide (x5_1 < (l0.length : Int)) = true := decide_eq_true c2
    clear c2
    by_cases c3 : 0 ≤ x5_1
    ·
     rw [if_pos c3] at H
     have c3b0 : decide (0 ≤ x5_1) = true := decide_eq_true c3
     clear c3
     replace H := Option.bind_eq_some_iff.mp H
     obtain ⟨t175, A40, H⟩ := H
     replace H : (if t175 = true then ((chancelref1_put.f x4_1 (rd l0 x5_1)).bind fun t177 => (chancelref1_Of.l0 k1 l0 t177 (wrap64 (x5_1 + 1)))) else (some ((⟨#[]⟩ : ByteArray), 11))) = some (r1, r2) := H
     have A4 := aZ_ A40
     clear A40
     by_cases c5 : t175 = true
     ·
      subst c5
      have H1 : ((chancelref1_put.f x4_1 (rd l0 x5_1)).bind fun t177 => (chancelref1_Of.l0 k1 l0 t177 (wrap64 (x5_1 + 1)))) = some (r1, r2) := by rw [if_pos rfl] at H; exact H
      clear H
      have H := H1
      clear H1
      replace H := Option.bind_eq_some_iff.mp H
      obtain ⟨t177, A60, H⟩ := H
      replace H : (chancelref1_Of.l0 k1 l0 t177 (wrap64 (x5_1 + 1))) = some (r1, r2) := H
      have A6 := aZ_ A60
      clear A60
      have H' := aZ_ H
      clear H
      have p174 : 0 ≤ (x5_1 : Int) := of_decide_eq_true asm_
      have q174 : x5_1 < (l0.length : Int) := of_decide_eq_true asm_
      obtain ⟨ad174, e174, hx174_0⟩ := Kd.at_int HR0.out x5_1 p174 q174
      cases e174
      replace hx174_0 := (hbc HB.out hx174_0 :)
      replace p174 := eq_true p174
      replace q174 := eq_true q174
      go_wp2_with (first | ((with_reducible refine gate_callee (f := 148) rfl ?_); refine goesL_ (some 16) rfl rfl Try.func148 (by kernel_rfl) rfl #[.int .i32 (rd l0 x5_1)] rfl gm_ ?_; (with_reducible refine (chancelref1_Is.calls (rd l0 x5_1) true _ A4.out).mono ?_); rintro e w' ⟨rfl, ⟨nd, rfl⟩⟩; refine ⟨_, rfl, ?_⟩; have p176 : 0 ≤ (x5_1 : Int) := of_decide_eq_true asm_; have q176 : x5_1 < (l0.length : Int) := of_decide_eq_true asm_; obtain ⟨ad176, e176, hx176_0⟩ := Kd.at_int HR0.out x5_1 p176 q176; obtain rfl : ad174 = ad176 := (by injection e176); replace hx176_0 := (hbc HB.out hx176_0 :); replace p176 := eq_true p176; replace q176 := eq_true q176; obtain ⟨Ao7, co7, eo7⟩ := Kd.R_slice HO_4.out; subst eo7) | ((with_reducible refine gate_callee (f := 149) rfl ?_); refine goesL_ (some 23) rfl rfl Try.func149 (by kernel_rfl) rfl #[.slice Ao7 x4_1.length co7, .int .i32 (rd l0 x5_1)] rfl gm_ ?_; (with_reducible refine (chancelref1_put.calls (fun k_ => some k_ = (.slice Ao7 x4_1.length co7 : Value).ownBlock) (.slice Ao7 x4_1.length co7) x4_1 (rd l0 x5_1) t177 w _ ?side1 ?side2 A6.out).mono ?_); (case side1 => repeat (first | (with_reducible first | exact HB.out | apply below_alloc | apply pw_below_drewN | apply below_drew1) | exact HB.out)); (case side2 => exact Kd.R_tight rfl HO_4.out); rintro e w8 ⟨v178, rfl, ho0, hb, hkp⟩; refine ⟨_, rfl, ?_⟩; have HO179 := aZ_ (Kd.R_mono (ok' := fun k_ => True) ho0 (fun k_ hk_ => trivial)); replace HB := aZ_ (hb); clear HO_4; (try clear hb); (try clear hkp); (try clear ho0)))
      go_roundg k1
      case measure => have := HK1.out; omega
      case rel => exact ⟨(t177), (wrap64 (x5_1 + 1)), rf_, H', ⟨by have := HK1.out; omega⟩, ⟨kR HO179⟩, ⟨bl HB⟩⟩
     ·
      replace c5 := Bool.eq_false_iff.mpr c5
      subst c5
      have H1 : (some ((⟨#[]⟩ : ByteArray), 11)) = some (r1, r2) := by rw [if_neg (show ¬ (false = true) by decide)] at H; exact H
      clear H
      have H := H1
      clear H1
      simp only [Option.some.injEq, Prod.mk.injEq] at H
      obtain ⟨rfl, rfl⟩ := H
      have p174 : 0 ≤ (x5_1 : Int) := of_decide_eq_true asm_
      have q174 : x5_1 < (l0.length : Int) := of_decide_eq_true asm_
      obtain ⟨ad174, e174, hx174_0⟩ := Kd.at_int HR0.out x5_1 p174 q174
      cases e174
      replace hx174_0 := (hbc HB.out hx174_0 :)
      replace p174 := eq_true p174
      replace q174 := eq_true q174
      go_wp2_with (first | ((with_reducible refine gate_callee (f := 148) rfl ?_); refine goesL_ (some 16) rfl rfl Try.func148 (by kernel_rfl) rfl #[.int .i32 (rd l0 x5_1)] rfl gm_ ?_; (with_reducible refine (chancelref1_Is.calls (rd l0 x5_1) false _ A4.out).mono ?_); rintro e w' ⟨rfl, ⟨nd, rfl⟩⟩; refine ⟨_, rfl, ?_⟩))
      go_ret2
      exact ⟨by first | rfl | (simp [errW_none, errW_some] <;> rfl) | (simp [*, errW_none, errW_some] <;> rfl), bl HB⟩
    ·
     rw [if_neg c3] at H
     exact absurd H (by simp)
   ·
    rw [if_neg c2] at H
    have c2b0 : decide (x5_1 < (l0.length : Int)) = false := decide_eq_false c2
    clear c2
    simp only [Option.some.injEq, Prod.mk.injEq] at H
    obtain ⟨rfl, rfl⟩ := H
    have hcv9 := own_string (P := Try.prog) Try.underlying45 Try.underlying5 Try.underlying9 (Kd.own_of_R HO_4.out)
    go_wp2
    go_ret2
    exact ⟨by first | rfl | (simp [errW_none, errW_some] <;> rfl) | (simp [*, errW_none, errW_some] <;> rfl), bl HB⟩

/-! ### chancellaw1_Of: function 97 -/
def chancellaw1_Of.l0 : Nat → List Int → List Int → List Int → Int → Option (ByteArray)
 | 0, _, _, _, _ => none
 | k + 1, x0, x3, x4, x5 => if x5 < (x0.length : Int) then (if x5 < 40 then (if 0 ≤ x5 then ((chancellaw1_within.f (rd x0 x5) (x3.length : Int)).bind fun t184 => (if 0 ≤ t184 then (if t184 < (x3.length : Int) then (if x4.length < 35184372088832 then (chancellaw1_Of.l0 k x0 x3 (x4 ++ [rd x3 t184]) (wrap64 (x5 + 1))) else (none)) else (none)) else (none))) else (none)) else ((chancelref1_Of.f k x4).bind fun bt189 => (some bt189.1))) else ((chancelref1_Of.f k x4).bind fun bt191 => (some bt191.1))
def chancellaw1_Of.f (k : Nat) (l0 : List Int) : Option (ByteArray) := chancellaw1_Of.l0 k l0 (([97, 98, 42, 34, 92, 10, 9, 1, 31, 127, 128, 233, 2047, 2048, 8364, 55295, 57344, 65533, 65535, 65536, 128512, 1114111] : List Int)) ([] : List Int) 0
theorem chancellaw1_Of.mono_l : ∀ k, (∀ y0 y1 y2 y3, LeO (chancellaw1_Of.l0 k y0 y1 y2 y3) (chancellaw1_Of.l0 (k + 1) y0 y1 y2 y3))
 | 0 => fun _ _ _ _ r h => by simp [chancellaw1_Of.l0] at h
 | k + 1 => by
  have ih0 := chancellaw1_Of.mono_l k
  ·
   intro y0 y1 y2 y3
   unfold chancellaw1_Of.l0
   repeat' first
   | (with_reducible exact ih0 _ _ _ _)
   | (with_reducible exact chancelref1_Of.mono _ _)
   | (with_reducible exact LeO.refl _)
   | (with_reducible exact LeO.none _)
   | (with_reducible refine LeO.ite ?_ ?_)
   | (with_reducible refine LeO.bind ?_ (fun _ => ?_))
   | exact ih0 _ _ _ _
   | exact chancelref1_Of.mono _ _
   | exact LeO.none _
   | refine LeO.ite ?_ ?_
   | refine LeO.bind ?_ (fun _ => ?_)
theorem chancellaw1_Of.mono : ∀ a0 k, LeO (chancellaw1_Of.f k a0) (chancellaw1_Of.f (k + 1) a0) := by
 intro a0 k
 have ih0 := chancellaw1_Of.mono_l k
 unfold chancellaw1_Of.f
 repeat' first
   | (with_reducible exact ih0 _ _ _ _)
   | (with_reducible exact chancelref1_Of.mono _ _)
   | (with_reducible exact LeO.refl _)
   | (with_reducible exact LeO.none _)
   | (with_reducible refine LeO.ite ?_ ?_)
   | (with_reducible refine LeO.bind ?_ (fun _ => ?_))
   | exact ih0 _ _ _ _
   | exact chancelref1_Of.mono _ _
   | exact LeO.none _
   | refine LeO.ite ?_ ?_
   | refine LeO.bind ?_ (fun _ => ?_)
set_option maxHeartbeats 8000000 in
set_option maxRecDepth 100000 in
theorem chancellaw1_Of.calls (k : Nat) (A0 : Option Addr) (c0 : Nat) (l0 : List Int) (r : ByteArray) (w : World) (hr0 : Kd.C (Kd.int .i64) w A0 l0.length l0) (hc0 : l0.length ≤ c0) (h : chancellaw1_Of.f k l0 = some r) :
  Calls Try.prog 97 #[.slice A0 l0.length c0] w fun e w' => e = .returned (.string r) ∧ Below w.heap.size w w' := by
 have HR0 := aZ_ hr0
 have HC0 := aZ_ hc0
 clear hr0 hc0
 have HB := aZ_ (Below.refl w.heap.size w)
 have H : (chancellaw1_Of.l0 k l0 (([97, 98, 42, 34, 92, 10, 9, 1, 31, 127, 128, 233, 2047, 2048, 8364, 55295, 57344, 65533, 65535, 65536, 128512, 1114111] : List Int)) ([] : List Int) 0) = some r := h
 clear h
 obtain ⟨y180, hy180⟩ : ∃ y_ : List Int, y_ = (([97, 98, 42, 34, 92, 10, 9, 1, 31, 127, 128, 233, 2047, 2048, 8364, 55295, 57344, 65533, 65535, 65536, 128512, 1114111] : List Int)) := ⟨_, rfl⟩
 replace H : (chancellaw1_Of.l0 k l0 y180 ([] : List Int) 0) = some r := by first | (rw [hy180]; with_reducible exact H) | (have H2_ := (Option.bind_some _ _).symm.trans H; rw [hy180]; with_reducible exact H2_) | (have H2_ := (Option.bind_some _ _).symm.trans H; with_reducible exact H2_) | with_reducible exact H | (rw [hy180]; exact H) | exact H
 have Ny180 := aZ_ hy180
 clear hy180
 have H' := aZ_ H
 clear H
 go_enter Try.func97, Try.ntmps97
 go_wp2_with (first | ((with_reducible refine gate_dst (N := 8) rfl ?_); refine Kd.R_lit (Kd.int .i32) _ 21 ?hg (N := 8) ?hd (xs := ([97, 98, 42, 34, 92, 10, 9, 1, 31, 127, 128, 233, 2047, 2048, 8364, 55295, 57344, 65533, 65535, 65536, 128512, 1114111] : List Int)) (inner := [.int .i32 97, .int .i32 98, .int .i32 42, .int .i32 34, .int .i32 92, .int .i32 10, .int .i32 9, .int .i32 1, .int .i32 31, .int .i32 127, .int .i32 128, .int .i32 233, .int .i32 2047, .int .i32 2048, .int .i32 8364, .int .i32 55295, .int .i32 57344, .int .i32 65533, .int .i32 65535, .int .i32 65536, .int .i32 128512, .int .i32 1114111]) (ok := fun _ => True) (okp := fun _ => True) ?hr ?hp (fun _ hk => hk) trivial (Below.refl _ _) (Nat.le_refl _) (by simp) ?_; (case hd => rfl); (case hg => rfl); (case hr => first | (go_simp; done) | (go_simp; rfl)); (case hp => exact (Reps.one (show Kd.M (Kd.int .i32) _ _ _ 97 [.int .i32 97] from rfl) (Reps.one (show Kd.M (Kd.int .i32) _ _ _ 98 [.int .i32 98] from rfl) (Reps.one (show Kd.M (Kd.int .i32) _ _ _ 42 [.int .i32 42] from rfl) (Reps.one (show Kd.M (Kd.int .i32) _ _ _ 34 [.int .i32 34] from rfl) (Reps.one (show Kd.M (Kd.int .i32) _ _ _ 92 [.int .i32 92] from rfl) (Reps.one (show Kd.M (Kd.int .i32) _ _ _ 10 [.int .i32 10] from rfl) (Reps.one (show Kd.M (Kd.int .i32) _ _ _ 9 [.int .i32 9] from rfl) (Reps.one (show Kd.M (Kd.int .i32) _ _ _ 1 [.int .i32 1] from rfl) (Reps.one (show Kd.M (Kd.int .i32) _ _ _ 31 [.int .i32 31] from rfl) (Reps.one (show Kd.M (Kd.int .i32) _ _ _ 127 [.int .i32 127] from rfl) (Reps.one (show Kd.M (Kd.int .i32) _ _ _ 128 [.int .i32 128] from rfl) (Reps.one (show Kd.M (Kd.int .i32) _ _ _ 233 [.int .i32 233] from rfl) (Reps.one (show Kd.M (Kd.int .i32) _ _ _ 2047 [.int .i32 2047] from rfl) (Reps.one (show Kd.M (Kd.int .i32) _ _ _ 2048 [.int .i32 2048] from rfl) (Reps.one (show Kd.M (Kd.int .i32) _ _ _ 8364 [.int .i32 8364] from rfl) (Reps.one (show Kd.M (Kd.int .i32) _ _ _ 55295 [.int .i32 55295] from rfl) (Reps.one (show Kd.M (Kd.int .i32) _ _ _ 57344 [.int .i32 57344] from rfl) (Reps.one (show Kd.M (Kd.int .i32) _ _ _ 65533 [.int .i32 65533] from rfl) (Reps.one (show Kd.M (Kd.int .i32) _ _ _ 65535 [.int .i32 65535] from rfl) (Reps.one (show Kd.M (Kd.int .i32) _ _ _ 65536 [.int .i32 65536] from rfl) (Reps.one (show Kd.M (Kd.int .i32) _ _ _ 128512 [.int .i32 128512] from rfl) (Reps.one (show Kd.M (Kd.int .i32) _ _ _ 1114111 [.int .i32 1114111] from rfl) (Reps.none _ _)))))))))))))))))))))))); intro v181 w2 ho3 hb hg_ hnew_; clear hg_ hnew_; (first | rw [← Ny180.out] at ho3 | (simp only [Int.reduceToNat] at ho3; rw [← Ny180.out] at ho3)); have HO182 := aZ_ (Kd.R_lower ho3 (below_size (bl HB))); replace HB := aZ_ (below_step (bl HB) hb); clear hb ho3))
 go_loopg [4, 5] k (fun kq v4 v5 w' => ∃ (x4_1 : List Int) (x5_1 : Int), v5 = .int .i64 x5_1 ∧ Aside0 (chancellaw1_Of.l0 kq l0 y180 x4_1 x5_1 = some r) ∧ Aside0 (kq ≤ k) ∧ Aside0 (Kd.R (Kd.int .i32) 21 w' w.heap.size (fun k_ => some k_ ≠ (v4 : Value).ownBlock) v181 y180) ∧ Aside0 (Kd.R (Kd.int .i32) 21 w' w.heap.size (fun k_ => some k_ ≠ (v181 : Value).ownBlock) v4 x4_1) ∧ Aside0 (Below w.heap.size w w'))
 case atStart => exact ⟨(([] : List Int)), (0), rf_, H', ⟨Nat.le_refl _⟩, ⟨by (with_reducible repeat (first | apply Kd.R_alloc | apply Kd.R_drewN | apply Kd.R_drew)); exact Kd.R_mono HO182.out (fun _ hk => (by simp [Value.ownBlock]))⟩, ⟨by first | exact Kd.R_nil _ _ _ _ _ | exact Kd.N_nil _ _ _ _ _ | exact Kd.V_nil _ _ _ _ _ | exact Kd.Q_nil _ _ _ _ _ | exact Kd.S_nil _ _ _ _ _⟩, ⟨bl HB⟩⟩
 case round =>
  clear H'
  try clear p2
  obtain ⟨x4_1, x5_1, rfl, HA, HK1, HO_3, HO_4, HB⟩ := hrel
  cases gk with
  | zero => exact absurd HA.out (by simp [chancellaw1_Of.l0])
  | succ k1 =>
   have H := HA.out
   clear HA
   simp only [chancellaw1_Of.l0] at H
   by_cases c4 : x5_1 < (l0.length : Int)
   ·
    rw [if_pos c4] at H
    have c4b0 : decide (x5_1 < (l0.length : Int)) = true := decide_eq_true c4
    clear c4
    by_cases c5 : x5_1 < 40
    ·
     rw [if_pos c5] at H
     have c5b0 : decide (x5_1 < 40) = true := decide_eq_true c5
     clear c5
     by_cases c6 : 0 ≤ x5_1
     ·
      rw [if_pos c6] at H
      have c6b0 : decide (0 ≤ x5_1) = true := decide_eq_true c6
      clear c6
      replace H := Option.bind_eq_some_iff.mp H
      obtain ⟨t184, A70, H⟩ := H
      replace H : (if 0 ≤ t184 then (if t184 < (y180.length : Int) then (if x4_1.length < 35184372088832 then (chancellaw1_Of.l0 k1 l0 y180 (x4_1 ++ [rd y180 t184]) (wrap64 (x5_1 + 1))) else (none)) else (none)) else (none)) = some r := H
      have A7 := aZ_ A70
      clear A70
      by_cases c8 : 0 ≤ t184
      ·
       rw [if_pos c8] at H
       have c8b0 : decide (0 ≤ t184) = true := decide_eq_true c8
       clear c8
       by_cases c9 : t184 < (y180.length : Int)
       ·
        rw [if_pos c9] at H
        have c9b0 : decide (t184 < (y180.length : Int)) = true := decide_eq_true c9
        clear c9
        by_cases c10 : x4_1.length < 35184372088832
        ·
         rw [if_pos c10] at H
         have LMc10 := aZ_ c10
         clear c10
         obtain ⟨y186, hy186⟩ : ∃ y_ : List Int, y_ = (x4_1 ++ [rd y180 t184]) := ⟨_, rfl⟩
         replace H : (chancellaw1_Of.l0 k1 l0 y180 y186 (wrap64 (x5_1 + 1))) = some r := by first | (rw [hy186]; with_reducible exact H) | (have H2_ := (Option.bind_some _ _).symm.trans H; rw [hy186]; with_reducible exact H2_) | (have H2_ := (Option.bind_some _ _).symm.trans H; with_reducible exact H2_) | with_reducible exact H | (rw [hy186]; exact H) | exact H
         have Ny186 := aZ_ hy186
         clear hy186
         have H' := aZ_ H
         clear H
         have p183 : 0 ≤ (x5_1 : Int) := of_decide_eq_true asm_
         have q183 : x5_1 < (l0.length : Int) := of_decide_eq_true asm_
         obtain ⟨ad183, e183, hx183_0⟩ := Kd.at_int HR0.out x5_1 p183 q183
         cases e183
         replace hx183_0 := (hbc HB.out hx183_0 :)
         replace p183 := eq_true p183
         replace q183 := eq_true q183
         obtain ⟨Ao11, co11, eo11⟩ := Kd.R_slice HO_3.out
         subst eo11
         go_wp2_with (first | ((with_reducible refine gate_callee (f := 126) rfl ?_); refine goesL_ (some 27) rfl rfl Try.func126 (by kernel_rfl) rfl #[.int .i64 (rd l0 x5_1), .int .i64 (y180.length : Int)] rfl gm_ ?_; (with_reducible refine (chancellaw1_within.calls (rd l0 x5_1) (y180.length : Int) t184 _ A7.out).mono ?_); rintro e w' ⟨rfl, ⟨nd, rfl⟩⟩; refine ⟨_, rfl, ?_⟩; have p185 : 0 ≤ (t184 : Int) := of_decide_eq_true asm_; have q185 : t184 < (y180.length : Int) := of_decide_eq_true asm_; obtain ⟨ad185, e185, hx185_0⟩ := Kd.at_int (Kd.R_reads' HO_3.out).2.2 t184 p185 q185; cases e185; replace p185 := eq_true p185; replace q185 := eq_true q185) | ((with_reducible refine gate_builtin (b := .append) (xs := #[.tmp 19, .tmp 30]) rfl ?_); at_builtin; refine Kd.R_append (Kd.int .i32) (w0 := w) w.heap.size rfl (.tmp 19) (.tmp 30) 177 21 (.int .i32 0) 4 rfl Try.underlying177 info21 rfl (by decide) (by omega) u4 x4_1 (rd y180 t184) [.int .i32 (rd y180 t184)] (fun k_ => some k_ ≠ (.slice (some ad185) y180.length co11 : Value).ownBlock) (fun _ => False) rfl rfl ?aP (fun _ hk => hk.elim) ?aF ?aO ?aB ?aS ?aL ?_; (case aP => exact rfl); (case aB => exact (bl HB)); (case aF => exact (fun k_ hk => Kd.fresh' (Kd.R_lt (kR HO_3)) k_ hk)); (case aO => exact (kR HO_4)); (case aS => exact (below_size (bl HB))); (case aL => have := LMc10.out; omega); intro v187 w12 ho hb hg hat; rw [← Ny186.out] at ho; replace HO_3 := aZ_ (Kd.R_after (ok := (fun _ => True)) (by (with_reducible repeat (first | apply Kd.R_alloc | apply Kd.R_drewN | apply Kd.R_drew)); exact Kd.R_mono HO_3.out (fun _ hk => ⟨trivial, hk⟩)) hg hat); replace HB := aZ_ (hb); have HO188 := aZ_ (ho); clear HO_4; clear ho hb hg hat))
         go_roundg k1
         case measure => have := HK1.out; omega
         case rel => exact ⟨(y186), (wrap64 (x5_1 + 1)), rf_, H', ⟨by have := HK1.out; omega⟩, ⟨by (with_reducible repeat (first | apply Kd.R_alloc | apply Kd.R_drewN | apply Kd.R_drew)); exact Kd.R_mono HO_3.out (fun _ hk => hk.2)⟩, ⟨kR HO188⟩, ⟨bl HB⟩⟩
        ·
         rw [if_neg c10] at H
         exact absurd H (by simp)
       ·
        rw [if_neg c9] at H
        exact absurd H (by simp)
      ·
       rw [if_neg c8] at H
       exact absurd H (by simp)
     ·
      rw [if_neg c6] at H
      exact absurd H (by simp)
    ·
     rw [if_neg c5] at H
     have c5b0 : decide (x5_1 < 40) = false := decide_eq_false c5
     clear c5
     replace H := Option.bind_eq_some_iff.mp H
     obtain ⟨⟨t189, t190⟩, A130, H⟩ := H
     replace H : (some t189) = some r := H
     have A13 := aZ_ A130
     clear A130
     obtain rfl := Option.some.inj H
     obtain ⟨Ao14, co14, eo14⟩ := Kd.R_slice HO_4.out
     subst eo14
     go_wp2_with (first | ((with_reducible refine gate_callee (f := 127) rfl ?_); refine goesL_ (some 34) rfl rfl Try.func127 (by kernel_rfl) rfl #[.slice Ao14 x4_1.length co14] rfl gm_ ?_; (with_reducible refine (chancelref1_Of.calls k1 _ _ x4_1 t189 t190 _ ?side1 ?side2 A13.out).mono ?_); (case side1 => repeat (first | exact (Kd.R_reads' HO_4.out).2.2 | (with_reducible refine Kd.C_alloc ?_ _) | (with_reducible refine Kd.C_drewN ?_ _) | (with_reducible refine Kd.C_drew ?_))); (case side2 => exact (Kd.R_reads' HO_4.out).2.1); rintro e w15 ⟨rfl, hb⟩; refine ⟨_, rfl, ?_⟩; replace HO_3 := aZ_ (Kd.R_below (kR HO_3) hb); replace HO_4 := aZ_ (Kd.R_below (kR HO_4) hb); replace HB := aZ_ (below_step (bl HB) hb); (try clear hb); (try clear hb2); (try clear hk); (try clear hi)))
     go_ret
     exact ⟨by first | rfl | (simp [errW_none, errW_some] <;> rfl) | (simp [*, errW_none, errW_some] <;> rfl), bl HB⟩
   ·
    rw [if_neg c4] at H
    have c4b0 : decide (x5_1 < (l0.length : Int)) = false := decide_eq_false c4
    clear c4
    replace H := Option.bind_eq_some_iff.mp H
    obtain ⟨⟨t191, t192⟩, A160, H⟩ := H
    replace H : (some t191) = some r := H
    have A16 := aZ_ A160
    clear A160
    obtain rfl := Option.some.inj H
    obtain ⟨Ao17, co17, eo17⟩ := Kd.R_slice HO_4.out
    subst eo17
    go_wp2_with (first | ((with_reducible refine gate_callee (f := 127) rfl ?_); refine goesL_ (some 34) rfl rfl Try.func127 (by kernel_rfl) rfl #[.slice Ao17 x4_1.length co17] rfl gm_ ?_; (with_reducible refine (chancelref1_Of.calls k1 _ _ x4_1 t191 t192 _ ?side1 ?side2 A16.out).mono ?_); (case side1 => repeat (first | exact (Kd.R_reads' HO_4.out).2.2 | (with_reducible refine Kd.C_alloc ?_ _) | (with_reducible refine Kd.C_drewN ?_ _) | (with_reducible refine Kd.C_drew ?_))); (case side2 => exact (Kd.R_reads' HO_4.out).2.1); rintro e w18 ⟨rfl, hb⟩; refine ⟨_, rfl, ?_⟩; replace HO_3 := aZ_ (Kd.R_below (kR HO_3) hb); replace HO_4 := aZ_ (Kd.R_below (kR HO_4) hb); replace HB := aZ_ (below_step (bl HB) hb); (try clear hb); (try clear hb2); (try clear hk); (try clear hi)))
    go_ret
    exact ⟨by first | rfl | (simp [errW_none, errW_some] <;> rfl) | (simp [*, errW_none, errW_some] <;> rfl), bl HB⟩

/-! ### chancellaw3_id: function 82 -/
def chancellaw3_id.f (k : Nat) (l0 : List Int) : Option (ByteArray) := if (l0.length : Int) > 30 then (if 30 ≤ (l0.length : Int) then ((chancellaw1_Of.f k (l0.take 30)).bind fun t194 => (some t194)) else (none)) else ((chancellaw1_Of.f k l0).bind fun t195 => (some t195))
theorem chancellaw3_id.mono : ∀ a0 k, LeO (chancellaw3_id.f k a0) (chancellaw3_id.f (k + 1) a0) := by
 intro a0 k
 unfold chancellaw3_id.f
 repeat' first
   | (with_reducible exact chancellaw1_Of.mono _ _)
   | (with_reducible exact LeO.refl _)
   | (with_reducible exact LeO.none _)
   | (with_reducible refine LeO.ite ?_ ?_)
   | (with_reducible refine LeO.bind ?_ (fun _ => ?_))
   | exact chancellaw1_Of.mono _ _
   | exact LeO.none _
   | refine LeO.ite ?_ ?_
   | refine LeO.bind ?_ (fun _ => ?_)
set_option maxHeartbeats 8000000 in
set_option maxRecDepth 100000 in
theorem chancellaw3_id.calls (k : Nat) (A0 : Option Addr) (c0 : Nat) (l0 : List Int) (r : ByteArray) (w : World) (hr0 : Kd.C (Kd.int .i64) w A0 l0.length l0) (hc0 : l0.length ≤ c0) (h : chancellaw3_id.f k l0 = some r) :
  Calls Try.prog 82 #[.slice A0 l0.length c0] w fun e w' => e = .returned (.string r) ∧ Below w.heap.size w w' := by
 have HR0 := aZ_ hr0
 have HC0 := aZ_ hc0
 clear hr0 hc0
 have HB := aZ_ (Below.refl w.heap.size w)
 have H : (if (l0.length : Int) > 30 then (if 30 ≤ (l0.length : Int) then ((chancellaw1_Of.f k (l0.take 30)).bind fun t194 => (some t194)) else (none)) else ((chancellaw1_Of.f k l0).bind fun t195 => (some t195))) = some r := h
 clear h
 by_cases c2 : (l0.length : Int) > 30
 ·
  rw [if_pos c2] at H
  have c2b0 : decide (30 < (l0.length : Int)) = true := decide_eq_true c2
  have c2b1 : decide (30 < l0.length) = true := decide_eq_true (by omega)
  clear c2
  by_cases c3 : 30 ≤ (l0.length : Int)
  ·
   rw [if_pos c3] at H
   have c3b0 := eq_true c3
   have c3b1 : decide (30 ≤ (l0.length : Int)) = true := decide_eq_true c3
   clear c3
   replace H := Option.bind_eq_some_iff.mp H
   obtain ⟨t194, A40, H⟩ := H
   replace H : (some t194) = some r := H
   have A4 := aZ_ A40
   clear A40
   obtain rfl := Option.some.inj H
   obtain ⟨i05, hi05, _, hsz5, _⟩ := info_parts info3
   obtain ⟨hcut5, hA5, hC5⟩ := print_take_of (P := Try.prog) (Value.int .i64) 0 23 3 .i64 Try.underlying23 hi05 hsz5 A0 c0 l0 30 (by omega) (of_decide_eq_true asm_) HC0.out
   have HR193 := aZ_ (Kd.C_of_reads (h1 := fun _ => rfl) (hA5 _ (Kd.reads_of_C HR0.out)))
   have HC193 := aZ_ hC5
   clear hA5 hC5 hi05 hsz5
   go_enter Try.func82, Try.ntmps82
   go_wp2_with (first | ((with_reducible refine gate_callee (f := 97) rfl ?_); refine goesL_ (some 9) rfl rfl Try.func97 (by kernel_rfl) rfl #[.slice A0 (l0.take 30).length c0] rfl (by (try simp only [List.map_toArray, List.map_cons, List.map_nil]); first | done | (rw [show (l0.take 30).length = 30 from (by rw [List.length_take]; have h_ : (30 : Int) ≤ (l0.length : Int) := of_decide_eq_true asm_; omega)] <;> rfl) | rfl | (simp only [List.length_drop, List.length_take]; rfl)) ?_; (with_reducible refine (chancellaw1_Of.calls k _ _ (l0.take 30) t194 _ ?side1 ?side2 A4.out).mono ?_); (case side1 => repeat (first | exact HR193.out | (with_reducible refine Kd.C_alloc ?_ _) | (with_reducible refine Kd.C_drewN ?_ _) | (with_reducible refine Kd.C_drew ?_))); (case side2 => exact HC193.out); rintro e w6 ⟨rfl, hb⟩; refine ⟨_, rfl, ?_⟩; replace HB := aZ_ (below_step (bl HB) hb); (try clear hb); (try clear hb2); (try clear hk); (try clear hi)))
   go_ret
   exact ⟨by first | rfl | (simp [errW_none, errW_some] <;> rfl) | (simp [*, errW_none, errW_some] <;> rfl), bl HB⟩
  ·
   rw [if_neg c3] at H
   exact absurd H (by simp)
 ·
  rw [if_neg c2] at H
  have c2b0 : decide (30 < (l0.length : Int)) = false := decide_eq_false c2
  have c2b1 : decide (30 < l0.length) = false := decide_eq_false (by omega)
  clear c2
  replace H := Option.bind_eq_some_iff.mp H
  obtain ⟨t195, A70, H⟩ := H
  replace H : (some t195) = some r := H
  have A7 := aZ_ A70
  clear A70
  obtain rfl := Option.some.inj H
  go_enter Try.func82, Try.ntmps82
  go_wp2_with (first | ((with_reducible refine gate_callee (f := 97) rfl ?_); refine goesL_ (some 9) rfl rfl Try.func97 (by kernel_rfl) rfl #[.slice A0 l0.length c0] rfl gm_ ?_; (with_reducible refine (chancellaw1_Of.calls k _ _ l0 t195 _ ?side1 ?side2 A7.out).mono ?_); (case side1 => repeat (first | exact HR0.out | (with_reducible refine Kd.C_alloc ?_ _) | (with_reducible refine Kd.C_drewN ?_ _) | (with_reducible refine Kd.C_drew ?_))); (case side2 => exact HC0.out); rintro e w8 ⟨rfl, hb⟩; refine ⟨_, rfl, ?_⟩; replace HB := aZ_ (below_step (bl HB) hb); (try clear hb); (try clear hb2); (try clear hk); (try clear hi)))
  go_ret
  exact ⟨by first | rfl | (simp [errW_none, errW_some] <;> rfl) | (simp [*, errW_none, errW_some] <;> rfl), bl HB⟩

end Go.Proofs.Ytelibndkkokadaa.GB
