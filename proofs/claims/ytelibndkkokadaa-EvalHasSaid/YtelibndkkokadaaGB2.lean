-- Written by wip/tools/gprint.py over the kit's printer.
import Derived.Test.YtelibndkkokadaaGB0
import Derived.Test.YtelibndkkokadaaGB1
import Derived.Test.YtelibndkkokadaaSqz
namespace Go.Proofs.Ytelibndkkokadaa.GB
open Go.RowKit Go.Proofs.YtelibndkkokadaaW.PrintWords Go.Proofs.YtelibndkkokadaaW.PrintLast Go.Proofs.Ytelibndkkokadaa.HandV Go.Proofs.YtelibndkkokadaaW.PrintMore
attribute [local go_sem] max2_int min2_int max_two min_two max_three min_three max_four min_four   -- for this text's walks alone
set_option linter.unusedVariables false
set_option linter.unusedSimpArgs false

attribute [local go_sem high] eqA28
/-! ### chancelref8_Drop: function 40 -/
def chancelref8_Drop.l0 : Nat → List (S38) → List (S38) → Int → ByteArray → ByteArray → Option ((List (S38)))
 | 0, _, _, _, _, _ => none
 | k + 1, x0, x5, x6, x102000, x102001 => if x6 < (x0.length : Int) then (if 0 ≤ x6 then (if (!((((rd_T38 x0 x6).f0.f0).toList) == x102000.toList) || (!((((rd_T38 x0 x6).f0.f1).toList) == x102001.toList))) = true then (if x5.length < 1759218604441 then (chancelref8_Drop.l0 k x0 (x5 ++ [(⟨(⟨(rd_T38 x0 x6).f0.f0, (rd_T38 x0 x6).f0.f1⟩ : S28), (rd_T38 x0 x6).f1, (rd_T38 x0 x6).f2⟩ : S38)]) (wrap64 (x6 + 1)) x102000 x102001) else (none)) else (chancelref8_Drop.l0 k x0 x5 (wrap64 (x6 + 1)) x102000 x102001)) else (none)) else (some x5)
def chancelref8_Drop.f (k : Nat) (l0 : List (S38)) (a1_0 : ByteArray) (a1_1 : ByteArray) : Option ((List (S38))) := chancelref8_Drop.l0 k l0 ([] : List (S38)) 0 a1_0 a1_1
theorem chancelref8_Drop.mono_l : ∀ k, (∀ y0 y1 y2 y3 y4, LeO (chancelref8_Drop.l0 k y0 y1 y2 y3 y4) (chancelref8_Drop.l0 (k + 1) y0 y1 y2 y3 y4))
 | 0 => fun _ _ _ _ _ r h => by simp [chancelref8_Drop.l0] at h
 | k + 1 => by
  have ih0 := chancelref8_Drop.mono_l k
  ·
   intro y0 y1 y2 y3 y4
   unfold chancelref8_Drop.l0
   repeat' first
   | (with_reducible exact ih0 _ _ _ _ _)
   | (with_reducible exact LeO.refl _)
   | (with_reducible exact LeO.none _)
   | (with_reducible refine LeO.ite ?_ ?_)
   | (with_reducible refine LeO.bind ?_ (fun _ => ?_))
   | exact ih0 _ _ _ _ _
   | exact LeO.none _
   | refine LeO.ite ?_ ?_
   | refine LeO.bind ?_ (fun _ => ?_)
theorem chancelref8_Drop.mono : ∀ a0 a1 a2 k, LeO (chancelref8_Drop.f k a0 a1 a2) (chancelref8_Drop.f (k + 1) a0 a1 a2) := by
 intro a0 a1 a2 k
 have ih0 := chancelref8_Drop.mono_l k
 unfold chancelref8_Drop.f
 repeat' first
   | (with_reducible exact ih0 _ _ _ _ _)
   | (with_reducible exact LeO.refl _)
   | (with_reducible exact LeO.none _)
   | (with_reducible refine LeO.ite ?_ ?_)
   | (with_reducible refine LeO.bind ?_ (fun _ => ?_))
   | exact ih0 _ _ _ _ _
   | exact LeO.none _
   | refine LeO.ite ?_ ?_
   | refine LeO.bind ?_ (fun _ => ?_)
set_option maxHeartbeats 8000000 in
set_option maxRecDepth 100000 in
theorem chancelref8_Drop.calls (k : Nat) (P0_ : Nat → Prop) (A0 : Option Addr) (c0 : Nat) (l0 : List (S38)) (a1_0 : ByteArray) (a1_1 : ByteArray) (r : List (S38)) (w : World) (hs0 : Kd.V k38 38 w w.heap.size (fun k_ => P0_ k_) (.slice A0 l0.length c0) l0) (h : chancelref8_Drop.f k l0 a1_0 a1_1 = some r) :
  Calls Try.prog 40 #[.slice A0 l0.length c0, .agg #[.string a1_0, .string a1_1]] w fun e w' => ∃ v0_ : Value, e = .returned (v0_) ∧ Kd.N k38 38 w' w.heap.size (fun k_ => (P0_ k_ ∨ w.heap.size ≤ k_)) v0_ r ∧ Below w.heap.size w w' := by
 have hu28 := Try.underlying28
 have hu38 := Try.underlying38
 have HO0 := aZ_ (show Kd.V k38 38 w w.heap.size (fun k_ => (P0_ k_ ∨ w.heap.size ≤ k_)) (.slice A0 l0.length c0) l0 from Kd.V_mono hs0 (fun k_ hk => .inl hk))
 have HB := aZ_ (Below.refl w.heap.size w)
 have H : (chancelref8_Drop.l0 k l0 ([] : List (S38)) 0 a1_0 a1_1) = some r := h
 clear h
 have H' := aZ_ H
 clear H
 go_enter Try.func40, Try.ntmps40
 go_wp2_with (first | ((with_reducible refine gate_dst (N := 3) rfl ?_); refine bxE 3 #[.string a1_0, .string a1_1] 28 ?_; intro gb101 hg w3 hbox hb; replace HO0 := aZ_ (Kd.V_below (Kd.V_elderB (kV HO0) gb101 (Nat.le_of_eq hg.symm)) hb); have BK101 := aZ_ (hbox); have GW101 := aZ_ ((by rw [hg]; exact (below_size (bl HB)) : w.heap.size ≤ gb101)); have GE101 := aZ_ ((by rw [hg]; exact (below_size (bl HB)) : w.heap.size ≤ gb101)); replace HB := aZ_ (below_step (bl HB) hb); clear hb hbox hg))
 repeat (go_quiet (first | ((with_reducible refine gate_dst (N := 3) rfl ?_); refine bxE 3 #[.string a1_0, .string a1_1] 28 ?_; intro gb101 hg w3 hbox hb; replace HO0 := aZ_ (Kd.V_below (Kd.V_elderB (kV HO0) gb101 (Nat.le_of_eq hg.symm)) hb); have BK101 := aZ_ (hbox); have GW101 := aZ_ ((by rw [hg]; exact (below_size (bl HB)) : w.heap.size ≤ gb101)); have GE101 := aZ_ ((by rw [hg]; exact (below_size (bl HB)) : w.heap.size ≤ gb101)); replace HB := aZ_ (below_step (bl HB) hb); clear hb hbox hg)); try go_wp2_with (first | ((with_reducible refine gate_dst (N := 3) rfl ?_); refine bxE 3 #[.string a1_0, .string a1_1] 28 ?_; intro gb101 hg w3 hbox hb; replace HO0 := aZ_ (Kd.V_below (Kd.V_elderB (kV HO0) gb101 (Nat.le_of_eq hg.symm)) hb); have BK101 := aZ_ (hbox); have GW101 := aZ_ ((by rw [hg]; exact (below_size (bl HB)) : w.heap.size ≤ gb101)); have GE101 := aZ_ ((by rw [hg]; exact (below_size (bl HB)) : w.heap.size ≤ gb101)); replace HB := aZ_ (below_step (bl HB) hb); clear hb hbox hg)))
 go_loopg [5, 6] k (fun kq v5 v6 w' => ∃ (x5_1 : List (S38)) (x6_1 : Int), v6 = .int .i64 x6_1 ∧ Aside0 (chancelref8_Drop.l0 kq l0 x5_1 x6_1 a1_0 a1_1 = some r) ∧ Aside0 (kq ≤ k) ∧ Aside0 (Kd.V k38 38 w' w.heap.size (fun k_ => (P0_ k_ ∨ w.heap.size ≤ k_) ∧ some k_ ≠ (v5 : Value).ownBlock ∧ k_ ≠ gb101) (.slice A0 l0.length c0) l0) ∧ Aside0 (Kd.N k38 38 w' w.heap.size (fun k_ => (P0_ k_ ∨ w.heap.size ≤ k_) ∧ k_ ≠ gb101) v5 x5_1) ∧ Aside0 (w'.heap[gb101]? = some (.cells #[.string a1_0, .string a1_1] 28 (0, 0))) ∧ Aside0 (Below w.heap.size w w'))
 case atStart => exact ⟨(([] : List (S38))), (0), rf_, H', ⟨Nat.le_refl _⟩, ⟨by (with_reducible repeat (first | apply Kd.V_alloc | apply Kd.V_drewN | apply Kd.V_drew)); exact Kd.V_mono HO0.out (fun _ hk => ⟨hk.1, ⟨(by simp [Value.ownBlock]), hk.2⟩⟩)⟩, ⟨by first | exact Kd.R_nil _ _ _ _ _ | exact Kd.N_nil _ _ _ _ _ | exact Kd.V_nil _ _ _ _ _ | exact Kd.Q_nil _ _ _ _ _ | exact Kd.S_nil _ _ _ _ _⟩, ⟨bk BK101⟩, ⟨bl1 HB GE101⟩⟩
 case round =>
  clear H'
  try clear p2
  obtain ⟨x5_1, x6_1, rfl, HA, HK1, HO_0, HO_5, BK101, HB⟩ := hrel
  cases gk with
  | zero => exact absurd HA.out (by simp [chancelref8_Drop.l0])
  | succ k1 =>
   have H := HA.out
   clear HA
   simp only [chancelref8_Drop.l0] at H
   by_cases c4 : x6_1 < (l0.length : Int)
   ·
    rw [if_pos c4] at H
    have c4b0 : decide (x6_1 < (l0.length : Int)) = true := decide_eq_true c4
    clear c4
    by_cases c5 : 0 ≤ x6_1
    ·
     rw [if_pos c5] at H
     have c5b0 : decide (0 ≤ x6_1) = true := decide_eq_true c5
     clear c5
     by_cases c6 : (!((((rd_T38 l0 x6_1).f0.f0).toList) == a1_0.toList) || (!((((rd_T38 l0 x6_1).f0.f1).toList) == a1_1.toList))) = true
     ·
      rw [if_pos c6] at H
      have c6b0 : (!((((rd_T38 l0 x6_1).f0.f0).toList) == a1_0.toList) || (!((((rd_T38 l0 x6_1).f0.f1).toList) == a1_1.toList))) = true := c6
      clear c6
      by_cases c7 : x5_1.length < 1759218604441
      ·
       rw [if_pos c7] at H
       have LMc7 := aZ_ c7
       clear c7
       obtain ⟨y104, hy104⟩ : ∃ y_ : List (S38), y_ = (x5_1 ++ [(⟨(⟨(rd_T38 l0 x6_1).f0.f0, (rd_T38 l0 x6_1).f0.f1⟩ : S28), (rd_T38 l0 x6_1).f1, (rd_T38 l0 x6_1).f2⟩ : S38)]) := ⟨_, rfl⟩
       replace H : (chancelref8_Drop.l0 k1 l0 y104 (wrap64 (x6_1 + 1)) a1_0 a1_1) = some r := by first | (rw [hy104]; with_reducible exact H) | (have H2_ := (Option.bind_some _ _).symm.trans H; rw [hy104]; with_reducible exact H2_) | (have H2_ := (Option.bind_some _ _).symm.trans H; with_reducible exact H2_) | with_reducible exact H | (rw [hy104]; exact H) | exact H
       have Ny104 := aZ_ hy104
       clear hy104
       have H' := aZ_ H
       clear H
       have p102 : 0 ≤ (x6_1 : Int) := of_decide_eq_true asm_
       have q102 : x6_1 < (l0.length : Int) := of_decide_eq_true asm_
       obtain ⟨ad102, A102_2, c102_2, A102_3, c102_3, e102, hx102_0, hx102_1, hx102_2, hx102_3, hl102_2, hi102_2, hl102_3, hi102_3⟩ := at_T38 (Kd.V_reads' HO_0.out).2.2 x6_1 p102 q102
       cases e102
       obtain ⟨ce102, hce102, hMe102, hcc102⟩ := Kd.V_get HO_0.out z38 x6_1 p102 (by first | exact q102 | exact of_decide_eq_true asm_ | (have e_ := (Kd.V_reads' HO_0.out).1; omega))
       obtain ⟨ua102_2, uc102_2, ua102_3, uc102_3, rfl, ul102_2, ge102_2, ul102_3, ge102_3⟩ := k38_openF hMe102
       have hv102_2 := hcc102 2 _ rfl
       rw [add_field _ _ 2 (by omega)] at hv102_2
       replace hv102_2 := Option.some.inj (hv102_2.symm.trans hx102_2)
       injection hv102_2 with hva_ hvn_ hvc_
       rw [hva_] at ge102_2
       rw [hvc_] at ul102_2
       have HL102_2 := aZ_ (show Kd.V k28 28 _ w.heap.size _ _ ((rd_T38 l0 x6_1).f1) from Kd.V_mk ul102_2 ge102_2)
       clear hva_ hvn_ hvc_ ge102_2 ul102_2
       have hv102_3 := hcc102 3 _ rfl
       rw [add_field _ _ 3 (by omega)] at hv102_3
       replace hv102_3 := Option.some.inj (hv102_3.symm.trans hx102_3)
       injection hv102_3 with hva_ hvn_ hvc_
       rw [hva_] at ge102_3
       rw [hvc_] at ul102_3
       have HL102_3 := aZ_ (show Kd.V k58 58 _ w.heap.size _ _ ((rd_T38 l0 x6_1).f2) from Kd.V_mk ul102_3 ge102_3)
       clear hva_ hvn_ hvc_ ge102_3 ul102_3
       clear hcc102 hce102
       have HR102_2 := aZ_ hi102_2
       have HC102_2 := aZ_ hl102_2
       clear hi102_2 hl102_2
       have HR102_3 := aZ_ hi102_3
       have HC102_3 := aZ_ hl102_3
       clear hi102_3 hl102_3
       replace p102 := eq_true p102
       replace q102 := eq_true q102
       obtain ⟨hcz8_0, hcz8_1, hfz8_0, hfz8_1⟩ := bc2 BK101
       have p103 : 0 ≤ (x6_1 : Int) := of_decide_eq_true asm_
       have q103 : x6_1 < (l0.length : Int) := of_decide_eq_true asm_
       obtain ⟨ad103, A103_2, c103_2, A103_3, c103_3, e103, hx103_0, hx103_1, hx103_2, hx103_3, hl103_2, hi103_2, hl103_3, hi103_3⟩ := at_T38 (Kd.V_reads' HO_0.out).2.2 x6_1 p103 q103
       obtain rfl : ad102 = ad103 := (by injection e103)
       obtain ⟨ce103, hce103, hMe103, hcc103⟩ := Kd.V_get HO_0.out z38 x6_1 p103 (by first | exact q103 | exact of_decide_eq_true asm_ | (have e_ := (Kd.V_reads' HO_0.out).1; omega))
       obtain ⟨ua103_2, uc103_2, ua103_3, uc103_3, rfl, ul103_2, ge103_2, ul103_3, ge103_3⟩ := k38_openF hMe103
       have hv103_2 := hcc103 2 _ rfl
       rw [add_field _ _ 2 (by omega)] at hv103_2
       replace hv103_2 := Option.some.inj (hv103_2.symm.trans hx103_2)
       injection hv103_2 with hva_ hvn_ hvc_
       rw [hva_] at ge103_2
       rw [hvc_] at ul103_2
       have HL103_2 := aZ_ (show Kd.V k28 28 _ w.heap.size _ _ ((rd_T38 l0 x6_1).f1) from Kd.V_mk ul103_2 ge103_2)
       clear hva_ hvn_ hvc_ ge103_2 ul103_2
       have hv103_3 := hcc103 3 _ rfl
       rw [add_field _ _ 3 (by omega)] at hv103_3
       replace hv103_3 := Option.some.inj (hv103_3.symm.trans hx103_3)
       injection hv103_3 with hva_ hvn_ hvc_
       rw [hva_] at ge103_3
       rw [hvc_] at ul103_3
       have HL103_3 := aZ_ (show Kd.V k58 58 _ w.heap.size _ _ ((rd_T38 l0 x6_1).f2) from Kd.V_mk ul103_3 ge103_3)
       clear hva_ hvn_ hvc_ ge103_3 ul103_3
       clear hcc103 hce103
       have HR103_2 := aZ_ hi103_2
       have HC103_2 := aZ_ hl103_2
       clear hi103_2 hl103_2
       have HR103_3 := aZ_ hi103_3
       have HC103_3 := aZ_ hl103_3
       clear hi103_3 hl103_3
       replace p103 := eq_true p103
       replace q103 := eq_true q103
       have ea_ := Option.some.inj (hx102_2.symm.trans hx103_2)
       injection ea_ with ea_ en_ ec_
       subst ea_
       subst ec_
       clear en_
       have ea_ := Option.some.inj (hx102_3.symm.trans hx103_3)
       injection ea_ with ea_ en_ ec_
       subst ea_
       subst ec_
       clear en_
       go_wp2_with (first | ((with_reducible refine gate_builtin (b := .append) (xs := #[.tmp 20, .tmp 25]) rfl ?_); at_builtin; refine Kd.N_append k38 (w0 := w) w.heap.size rfl (.tmp 20) (.tmp 25) 25 38 (.agg #[(.string ⟨#[]⟩), (.string ⟨#[]⟩), (.slice none 0 0), (.slice none 0 0)]) 80 rfl Try.underlying25 info38 rfl (by decide) (by omega) u5 x5_1 (⟨(⟨(rd_T38 l0 x6_1).f0.f0, (rd_T38 l0 x6_1).f0.f1⟩ : S28), (rd_T38 l0 x6_1).f1, (rd_T38 l0 x6_1).f2⟩ : S38) [.string ((rd_T38 l0 x6_1).f0.f0), .string ((rd_T38 l0 x6_1).f0.f1), .slice A102_2 ((rd_T38 l0 x6_1).f1).length c102_2, .slice A102_3 ((rd_T38 l0 x6_1).f2).length c102_3] (fun k_ => (P0_ k_ ∨ w.heap.size ≤ k_) ∧ k_ ≠ gb101) (fun k_ => ((fun k_ => (P0_ k_ ∨ w.heap.size ≤ k_) ∧ k_ ≠ gb101)) k_ ∧ some k_ ≠ (u5 : Value).ownBlock) rfl rfl ?aP (fun _ hk => hk) ?aF ?aO ?aB ?aS ?aL ?_; (case aP => exact (k38_mkF _ _ (⟨(⟨(rd_T38 l0 x6_1).f0.f0, (rd_T38 l0 x6_1).f0.f1⟩ : S28), (rd_T38 l0 x6_1).f1, (rd_T38 l0 x6_1).f2⟩ : S38) (Kd.V_reads' (Kd.V_mono (ok' := (fun k_ => ((fun k_ => (P0_ k_ ∨ w.heap.size ≤ k_) ∧ k_ ≠ gb101)) k_ ∧ some k_ ≠ (u5 : Value).ownBlock)) (HL103_2.out) (fun k_ hk => ⟨⟨hk.1, hk.2.2⟩, hk.2.1⟩))).2.1 (Kd.V_F (Kd.V_mono (ok' := (fun k_ => ((fun k_ => (P0_ k_ ∨ w.heap.size ≤ k_) ∧ k_ ≠ gb101)) k_ ∧ some k_ ≠ (u5 : Value).ownBlock)) (HL103_2.out) (fun k_ hk => ⟨⟨hk.1, hk.2.2⟩, hk.2.1⟩))) (Kd.V_reads' (Kd.V_mono (ok' := (fun k_ => ((fun k_ => (P0_ k_ ∨ w.heap.size ≤ k_) ∧ k_ ≠ gb101)) k_ ∧ some k_ ≠ (u5 : Value).ownBlock)) (HL103_3.out) (fun k_ hk => ⟨⟨hk.1, hk.2.2⟩, hk.2.1⟩))).2.1 (Kd.V_F (Kd.V_mono (ok' := (fun k_ => ((fun k_ => (P0_ k_ ∨ w.heap.size ≤ k_) ∧ k_ ≠ gb101)) k_ ∧ some k_ ≠ (u5 : Value).ownBlock)) (HL103_3.out) (fun k_ hk => ⟨⟨hk.1, hk.2.2⟩, hk.2.1⟩))))); (case aB => exact (bl1 HB GE101)); (case aF => exact (fun k_ hk => ⟨(.inr (Nat.le_trans (below_size (bl1 HB GE101)) hk)), Kd.freshB (g := gb101) (o := .cells #[.string a1_0, .string a1_1] 28 (0, 0)) (bk BK101) k_ hk⟩)); (case aO => exact (kN HO_5)); (case aS => exact (below_size (bl1 HB GE101))); (case aL => have := LMc7.out; omega); intro v105 w9 ho hb hg hat; rw [← Ny104.out] at ho; replace HO_0 := aZ_ (Kd.V_afterv (ok := (fun k_ => (P0_ k_ ∨ w.heap.size ≤ k_) ∧ k_ ≠ gb101)) (by (with_reducible repeat (first | apply Kd.V_alloc | apply Kd.V_drewN | apply Kd.V_drew)); exact Kd.V_mono HO_0.out (fun _ hk => ⟨⟨hk.1, hk.2.2⟩, hk.2.1⟩)) hg hat); replace BK101 := aZ_ (blk_grown (g := gb101) (o := .cells #[.string a1_0, .string a1_1] 28 (0, 0)) (bk BK101) hg (Kd.N_ne HO_5.out BK101.out (by decide))); replace HL102_2 := aZ_ (Kd.V_afterv (ok := (fun k_ => (P0_ k_ ∨ w.heap.size ≤ k_) ∧ k_ ≠ gb101)) (by (with_reducible repeat (first | apply Kd.V_alloc | apply Kd.V_drewN | apply Kd.V_drew)); exact Kd.V_mono HL102_2.out (fun _ hk => ⟨⟨hk.1, hk.2.2⟩, hk.2.1⟩)) hg hat); replace HL102_3 := aZ_ (Kd.V_afterv (ok := (fun k_ => (P0_ k_ ∨ w.heap.size ≤ k_) ∧ k_ ≠ gb101)) (by (with_reducible repeat (first | apply Kd.V_alloc | apply Kd.V_drewN | apply Kd.V_drew)); exact Kd.V_mono HL102_3.out (fun _ hk => ⟨⟨hk.1, hk.2.2⟩, hk.2.1⟩)) hg hat); replace HL103_2 := aZ_ (Kd.V_afterv (ok := (fun k_ => (P0_ k_ ∨ w.heap.size ≤ k_) ∧ k_ ≠ gb101)) (by (with_reducible repeat (first | apply Kd.V_alloc | apply Kd.V_drewN | apply Kd.V_drew)); exact Kd.V_mono HL103_2.out (fun _ hk => ⟨⟨hk.1, hk.2.2⟩, hk.2.1⟩)) hg hat); replace HL103_3 := aZ_ (Kd.V_afterv (ok := (fun k_ => (P0_ k_ ∨ w.heap.size ≤ k_) ∧ k_ ≠ gb101)) (by (with_reducible repeat (first | apply Kd.V_alloc | apply Kd.V_drewN | apply Kd.V_drew)); exact Kd.V_mono HL103_3.out (fun _ hk => ⟨⟨hk.1, hk.2.2⟩, hk.2.1⟩)) hg hat); replace HB := aZ_ (hb); have HO106 := aZ_ (ho); clear HO_5; clear ho hb hg hat))
       repeat (go_quiet (first | ((with_reducible refine gate_builtin (b := .append) (xs := #[.tmp 20, .tmp 25]) rfl ?_); at_builtin; refine Kd.N_append k38 (w0 := w) w.heap.size rfl (.tmp 20) (.tmp 25) 25 38 (.agg #[(.string ⟨#[]⟩), (.string ⟨#[]⟩), (.slice none 0 0), (.slice none 0 0)]) 80 rfl Try.underlying25 info38 rfl (by decide) (by omega) u5 x5_1 (⟨(⟨(rd_T38 l0 x6_1).f0.f0, (rd_T38 l0 x6_1).f0.f1⟩ : S28), (rd_T38 l0 x6_1).f1, (rd_T38 l0 x6_1).f2⟩ : S38) [.string ((rd_T38 l0 x6_1).f0.f0), .string ((rd_T38 l0 x6_1).f0.f1), .slice A102_2 ((rd_T38 l0 x6_1).f1).length c102_2, .slice A102_3 ((rd_T38 l0 x6_1).f2).length c102_3] (fun k_ => (P0_ k_ ∨ w.heap.size ≤ k_) ∧ k_ ≠ gb101) (fun k_ => ((fun k_ => (P0_ k_ ∨ w.heap.size ≤ k_) ∧ k_ ≠ gb101)) k_ ∧ some k_ ≠ (u5 : Value).ownBlock) rfl rfl ?aP (fun _ hk => hk) ?aF ?aO ?aB ?aS ?aL ?_; (case aP => exact (k38_mkF _ _ (⟨(⟨(rd_T38 l0 x6_1).f0.f0, (rd_T38 l0 x6_1).f0.f1⟩ : S28), (rd_T38 l0 x6_1).f1, (rd_T38 l0 x6_1).f2⟩ : S38) (Kd.V_reads' (Kd.V_mono (ok' := (fun k_ => ((fun k_ => (P0_ k_ ∨ w.heap.size ≤ k_) ∧ k_ ≠ gb101)) k_ ∧ some k_ ≠ (u5 : Value).ownBlock)) (HL103_2.out) (fun k_ hk => ⟨⟨hk.1, hk.2.2⟩, hk.2.1⟩))).2.1 (Kd.V_F (Kd.V_mono (ok' := (fun k_ => ((fun k_ => (P0_ k_ ∨ w.heap.size ≤ k_) ∧ k_ ≠ gb101)) k_ ∧ some k_ ≠ (u5 : Value).ownBlock)) (HL103_2.out) (fun k_ hk => ⟨⟨hk.1, hk.2.2⟩, hk.2.1⟩))) (Kd.V_reads' (Kd.V_mono (ok' := (fun k_ => ((fun k_ => (P0_ k_ ∨ w.heap.size ≤ k_) ∧ k_ ≠ gb101)) k_ ∧ some k_ ≠ (u5 : Value).ownBlock)) (HL103_3.out) (fun k_ hk => ⟨⟨hk.1, hk.2.2⟩, hk.2.1⟩))).2.1 (Kd.V_F (Kd.V_mono (ok' := (fun k_ => ((fun k_ => (P0_ k_ ∨ w.heap.size ≤ k_) ∧ k_ ≠ gb101)) k_ ∧ some k_ ≠ (u5 : Value).ownBlock)) (HL103_3.out) (fun k_ hk => ⟨⟨hk.1, hk.2.2⟩, hk.2.1⟩))))); (case aB => exact (bl1 HB GE101)); (case aF => exact (fun k_ hk => ⟨(.inr (Nat.le_trans (below_size (bl1 HB GE101)) hk)), Kd.freshB (g := gb101) (o := .cells #[.string a1_0, .string a1_1] 28 (0, 0)) (bk BK101) k_ hk⟩)); (case aO => exact (kN HO_5)); (case aS => exact (below_size (bl1 HB GE101))); (case aL => have := LMc7.out; omega); intro v105 w9 ho hb hg hat; rw [← Ny104.out] at ho; replace HO_0 := aZ_ (Kd.V_afterv (ok := (fun k_ => (P0_ k_ ∨ w.heap.size ≤ k_) ∧ k_ ≠ gb101)) (by (with_reducible repeat (first | apply Kd.V_alloc | apply Kd.V_drewN | apply Kd.V_drew)); exact Kd.V_mono HO_0.out (fun _ hk => ⟨⟨hk.1, hk.2.2⟩, hk.2.1⟩)) hg hat); replace BK101 := aZ_ (blk_grown (g := gb101) (o := .cells #[.string a1_0, .string a1_1] 28 (0, 0)) (bk BK101) hg (Kd.N_ne HO_5.out BK101.out (by decide))); replace HL102_2 := aZ_ (Kd.V_afterv (ok := (fun k_ => (P0_ k_ ∨ w.heap.size ≤ k_) ∧ k_ ≠ gb101)) (by (with_reducible repeat (first | apply Kd.V_alloc | apply Kd.V_drewN | apply Kd.V_drew)); exact Kd.V_mono HL102_2.out (fun _ hk => ⟨⟨hk.1, hk.2.2⟩, hk.2.1⟩)) hg hat); replace HL102_3 := aZ_ (Kd.V_afterv (ok := (fun k_ => (P0_ k_ ∨ w.heap.size ≤ k_) ∧ k_ ≠ gb101)) (by (with_reducible repeat (first | apply Kd.V_alloc | apply Kd.V_drewN | apply Kd.V_drew)); exact Kd.V_mono HL102_3.out (fun _ hk => ⟨⟨hk.1, hk.2.2⟩, hk.2.1⟩)) hg hat); replace HL103_2 := aZ_ (Kd.V_afterv (ok := (fun k_ => (P0_ k_ ∨ w.heap.size ≤ k_) ∧ k_ ≠ gb101)) (by (with_reducible repeat (first | apply Kd.V_alloc | apply Kd.V_drewN | apply Kd.V_drew)); exact Kd.V_mono HL103_2.out (fun _ hk => ⟨⟨hk.1, hk.2.2⟩, hk.2.1⟩)) hg hat); replace HL103_3 := aZ_ (Kd.V_afterv (ok := (fun k_ => (P0_ k_ ∨ w.heap.size ≤ k_) ∧ k_ ≠ gb101)) (by (with_reducible repeat (first | apply Kd.V_alloc | apply Kd.V_drewN | apply Kd.V_drew)); exact Kd.V_mono HL103_3.out (fun _ hk => ⟨⟨hk.1, hk.2.2⟩, hk.2.1⟩)) hg hat); replace HB := aZ_ (hb); have HO106 := aZ_ (ho); clear HO_5; clear ho hb hg hat)); try go_wp2_with (first | ((with_reducible refine gate_builtin (b := .append) (xs := #[.tmp 20, .tmp 25]) rfl ?_); at_builtin; refine Kd.N_append k38 (w0 := w) w.heap.size rfl (.tmp 20) (.tmp 25) 25 38 (.agg #[(.string ⟨#[]⟩), (.string ⟨#[]⟩), (.slice none 0 0), (.slice none 0 0)]) 80 rfl Try.underlying25 info38 rfl (by decide) (by omega) u5 x5_1 (⟨(⟨(rd_T38 l0 x6_1).f0.f0, (rd_T38 l0 x6_1).f0.f1⟩ : S28), (rd_T38 l0 x6_1).f1, (rd_T38 l0 x6_1).f2⟩ : S38) [.string ((rd_T38 l0 x6_1).f0.f0), .string ((rd_T38 l0 x6_1).f0.f1), .slice A102_2 ((rd_T38 l0 x6_1).f1).length c102_2, .slice A102_3 ((rd_T38 l0 x6_1).f2).length c102_3] (fun k_ => (P0_ k_ ∨ w.heap.size ≤ k_) ∧ k_ ≠ gb101) (fun k_ => ((fun k_ => (P0_ k_ ∨ w.heap.size ≤ k_) ∧ k_ ≠ gb101)) k_ ∧ some k_ ≠ (u5 : Value).ownBlock) rfl rfl ?aP (fun _ hk => hk) ?aF ?aO ?aB ?aS ?aL ?_; (case aP => exact (k38_mkF _ _ (⟨(⟨(rd_T38 l0 x6_1).f0.f0, (rd_T38 l0 x6_1).f0.f1⟩ : S28), (rd_T38 l0 x6_1).f1, (rd_T38 l0 x6_1).f2⟩ : S38) (Kd.V_reads' (Kd.V_mono (ok' := (fun k_ => ((fun k_ => (P0_ k_ ∨ w.heap.size ≤ k_) ∧ k_ ≠ gb101)) k_ ∧ some k_ ≠ (u5 : Value).ownBlock)) (HL103_2.out) (fun k_ hk => ⟨⟨hk.1, hk.2.2⟩, hk.2.1⟩))).2.1 (Kd.V_F (Kd.V_mono (ok' := (fun k_ => ((fun k_ => (P0_ k_ ∨ w.heap.size ≤ k_) ∧ k_ ≠ gb101)) k_ ∧ some k_ ≠ (u5 : Value).ownBlock)) (HL103_2.out) (fun k_ hk => ⟨⟨hk.1, hk.2.2⟩, hk.2.1⟩))) (Kd.V_reads' (Kd.V_mono (ok' := (fun k_ => ((fun k_ => (P0_ k_ ∨ w.heap.size ≤ k_) ∧ k_ ≠ gb101)) k_ ∧ some k_ ≠ (u5 : Value).ownBlock)) (HL103_3.out) (fun k_ hk => ⟨⟨hk.1, hk.2.2⟩, hk.2.1⟩))).2.1 (Kd.V_F (Kd.V_mono (ok' := (fun k_ => ((fun k_ => (P0_ k_ ∨ w.heap.size ≤ k_) ∧ k_ ≠ gb101)) k_ ∧ some k_ ≠ (u5 : Value).ownBlock)) (HL103_3.out) (fun k_ hk => ⟨⟨hk.1, hk.2.2⟩, hk.2.1⟩))))); (case aB => exact (bl1 HB GE101)); (case aF => exact (fun k_ hk => ⟨(.inr (Nat.le_trans (below_size (bl1 HB GE101)) hk)), Kd.freshB (g := gb101) (o := .cells #[.string a1_0, .string a1_1] 28 (0, 0)) (bk BK101) k_ hk⟩)); (case aO => exact (kN HO_5)); (case aS => exact (below_size (bl1 HB GE101))); (case aL => have := LMc7.out; omega); intro v105 w9 ho hb hg hat; rw [← Ny104.out] at ho; replace HO_0 := aZ_ (Kd.V_afterv (ok := (fun k_ => (P0_ k_ ∨ w.heap.size ≤ k_) ∧ k_ ≠ gb101)) (by (with_reducible repeat (first | apply Kd.V_alloc | apply Kd.V_drewN | apply Kd.V_drew)); exact Kd.V_mono HO_0.out (fun _ hk => ⟨⟨hk.1, hk.2.2⟩, hk.2.1⟩)) hg hat); replace BK101 := aZ_ (blk_grown (g := gb101) (o := .cells #[.string a1_0, .string a1_1] 28 (0, 0)) (bk BK101) hg (Kd.N_ne HO_5.out BK101.out (by decide))); replace HL102_2 := aZ_ (Kd.V_afterv (ok := (fun k_ => (P0_ k_ ∨ w.heap.size ≤ k_) ∧ k_ ≠ gb101)) (by (with_reducible repeat (first | apply Kd.V_alloc | apply Kd.V_drewN | apply Kd.V_drew)); exact Kd.V_mono HL102_2.out (fun _ hk => ⟨⟨hk.1, hk.2.2⟩, hk.2.1⟩)) hg hat); replace HL102_3 := aZ_ (Kd.V_afterv (ok := (fun k_ => (P0_ k_ ∨ w.heap.size ≤ k_) ∧ k_ ≠ gb101)) (by (with_reducible repeat (first | apply Kd.V_alloc | apply Kd.V_drewN | apply Kd.V_drew)); exact Kd.V_mono HL102_3.out (fun _ hk => ⟨⟨hk.1, hk.2.2⟩, hk.2.1⟩)) hg hat); replace HL103_2 := aZ_ (Kd.V_afterv (ok := (fun k_ => (P0_ k_ ∨ w.heap.size ≤ k_) ∧ k_ ≠ gb101)) (by (with_reducible repeat (first | apply Kd.V_alloc | apply Kd.V_drewN | apply Kd.V_drew)); exact Kd.V_mono HL103_2.out (fun _ hk => ⟨⟨hk.1, hk.2.2⟩, hk.2.1⟩)) hg hat); replace HL103_3 := aZ_ (Kd.V_afterv (ok := (fun k_ => (P0_ k_ ∨ w.heap.size ≤ k_) ∧ k_ ≠ gb101)) (by (with_reducible repeat (first | apply Kd.V_alloc | apply Kd.V_drewN | apply Kd.V_drew)); exact Kd.V_mono HL103_3.out (fun _ hk => ⟨⟨hk.1, hk.2.2⟩, hk.2.1⟩)) hg hat); replace HB := aZ_ (hb); have HO106 := aZ_ (ho); clear HO_5; clear ho hb hg hat)))
       go_roundg k1
       case measure => have := HK1.out; omega
       case rel => exact ⟨(y104), (wrap64 (x6_1 + 1)), rf_, H', ⟨by have := HK1.out; omega⟩, ⟨by (with_reducible repeat (first | apply Kd.V_alloc | apply Kd.V_drewN | apply Kd.V_drew)); exact Kd.V_mono HO_0.out (fun _ hk => by first | exact ⟨hk.1.1, ⟨hk.2, hk.1.2⟩⟩ | (simp only [own_nf] at hk ⊢; exact ⟨hk.1.1, ⟨hk.2, hk.1.2⟩⟩))⟩, ⟨kN HO106⟩, ⟨bk BK101⟩, ⟨bl1 HB GE101⟩⟩
      ·
       rw [if_neg c7] at H
       exact absurd H (by simp)
     ·
      rw [if_neg c6] at H
      have c6b0 : (!((((rd_T38 l0 x6_1).f0.f0).toList) == a1_0.toList) || (!((((rd_T38 l0 x6_1).f0.f1).toList) == a1_1.toList))) = false := by simpa using c6
      clear c6
      have H' := aZ_ H
      clear H
      have p102 : 0 ≤ (x6_1 : Int) := of_decide_eq_true asm_
      have q102 : x6_1 < (l0.length : Int) := of_decide_eq_true asm_
      obtain ⟨ad102, A102_2, c102_2, A102_3, c102_3, e102, hx102_0, hx102_1, hx102_2, hx102_3, hl102_2, hi102_2, hl102_3, hi102_3⟩ := at_T38 (Kd.V_reads' HO_0.out).2.2 x6_1 p102 q102
      cases e102
      obtain ⟨ce102, hce102, hMe102, hcc102⟩ := Kd.V_get HO_0.out z38 x6_1 p102 (by first | exact q102 | exact of_decide_eq_true asm_ | (have e_ := (Kd.V_reads' HO_0.out).1; omega))
      obtain ⟨ua102_2, uc102_2, ua102_3, uc102_3, rfl, ul102_2, ge102_2, ul102_3, ge102_3⟩ := k38_openF hMe102
      have hv102_2 := hcc102 2 _ rfl
      rw [add_field _ _ 2 (by omega)] at hv102_2
      replace hv102_2 := Option.some.inj (hv102_2.symm.trans hx102_2)
      injection hv102_2 with hva_ hvn_ hvc_
      rw [hva_] at ge102_2
      rw [hvc_] at ul102_2
      have HL102_2 := aZ_ (show Kd.V k28 28 _ w.heap.size _ _ ((rd_T38 l0 x6_1).f1) from Kd.V_mk ul102_2 ge102_2)
      clear hva_ hvn_ hvc_ ge102_2 ul102_2
      have hv102_3 := hcc102 3 _ rfl
      rw [add_field _ _ 3 (by omega)] at hv102_3
      replace hv102_3 := Option.some.inj (hv102_3.symm.trans hx102_3)
      injection hv102_3 with hva_ hvn_ hvc_
      rw [hva_] at ge102_3
      rw [hvc_] at ul102_3
      have HL102_3 := aZ_ (show Kd.V k58 58 _ w.heap.size _ _ ((rd_T38 l0 x6_1).f2) from Kd.V_mk ul102_3 ge102_3)
      clear hva_ hvn_ hvc_ ge102_3 ul102_3
      clear hcc102 hce102
      have HR102_2 := aZ_ hi102_2
      have HC102_2 := aZ_ hl102_2
      clear hi102_2 hl102_2
      have HR102_3 := aZ_ hi102_3
      have HC102_3 := aZ_ hl102_3
      clear hi102_3 hl102_3
      replace p102 := eq_true p102
      replace q102 := eq_true q102
      obtain ⟨hcz10_0, hcz10_1, hfz10_0, hfz10_1⟩ := bc2 BK101
      go_wp2
      repeat (go_quiet (fail); try go_wp2)
      go_roundg k1
      case measure => have := HK1.out; omega
      case rel => exact ⟨(x5_1), (wrap64 (x6_1 + 1)), rf_, H', ⟨by have := HK1.out; omega⟩, ⟨kV HO_0⟩, ⟨kN HO_5⟩, ⟨bk BK101⟩, ⟨bl1 HB GE101⟩⟩
    ·
     rw [if_neg c5] at H
     exact absurd H (by simp)
   ·
    rw [if_neg c4] at H
    have c4b0 : decide (x6_1 < (l0.length : Int)) = false := decide_eq_false c4
    clear c4
    obtain rfl := Option.some.inj H
    go_wp2
    repeat (go_quiet (fail); try go_wp2)
    go_ret
    exact ⟨_, by first | rfl | (simp [errW_none, errW_some] <;> rfl) | (simp [*, errW_none, errW_some] <;> rfl), by (with_reducible repeat (first | apply Kd.N_alloc | apply Kd.N_drewN | apply Kd.N_drew)); exact Kd.N_mono HO_5.out (fun _ hk => hk.1), bl1 HB GE101⟩

/-! ### chancelref3_LessUid: function 45 -/
def chancelref3_LessUid.f (a0_0 : ByteArray) (a0_1 : ByteArray) (a1_0 : ByteArray) (a1_1 : ByteArray) : Option (Bool) := if a0_0.toList = a1_0.toList then (some (Op.bytesLess a0_1.toList a1_1.toList)) else (some (Op.bytesLess a0_0.toList a1_0.toList))
set_option maxHeartbeats 8000000 in
set_option maxRecDepth 100000 in
theorem chancelref3_LessUid.calls (a0_0 : ByteArray) (a0_1 : ByteArray) (a1_0 : ByteArray) (a1_1 : ByteArray) (r : Bool) (w : World) (h : chancelref3_LessUid.f a0_0 a0_1 a1_0 a1_1 = some r) :
  Calls Try.prog 45 #[.agg #[.string a0_0, .string a0_1], .agg #[.string a1_0, .string a1_1]] w fun e w' => e = .returned (.bool r) ∧ Below w.heap.size w w' := by
 have hu28 := Try.underlying28
 have HB := aZ_ (Below.refl w.heap.size w)
 have H : (if a0_0.toList = a1_0.toList then (some (Op.bytesLess a0_1.toList a1_1.toList)) else (some (Op.bytesLess a0_0.toList a1_0.toList))) = some r := h
 clear h
 by_cases c3 : a0_0.toList = a1_0.toList
 ·
  rw [if_pos c3] at H
  have c3b0 : (a0_0.toList == a1_0.toList) = true := beq_iff_eq.mpr c3
  have c3b1 : (a0_0.toList != a1_0.toList) = false := bne_eq_false_iff_eq.mpr c3
  clear c3
  obtain rfl := Option.some.inj H
  go_enter Try.func45, Try.ntmps45
  go_wp2_with (first | ((with_reducible refine gate_dst (N := 2) rfl ?_); refine bxE 2 #[.string a0_0, .string a0_1] 28 ?_; intro gb107 hg w4 hbox hb; have BK107 := aZ_ (hbox); have GW107 := aZ_ ((by rw [hg]; exact (below_size (bl HB)) : w.heap.size ≤ gb107)); have GE107 := aZ_ ((by rw [hg]; exact (below_size (bl HB)) : w.heap.size ≤ gb107)); replace HB := aZ_ (below_step (bl HB) hb); clear hb hbox hg) | ((with_reducible refine gate_dst (N := 3) rfl ?_); refine bxE 3 #[.string a1_0, .string a1_1] 28 ?_; intro gb108 hg w5 hbox hb; have BK108 := aZ_ (hbox); have GW108 := aZ_ ((by rw [hg]; exact (below_size (bl1 HB GE107)) : w.heap.size ≤ gb108)); have GE108 := aZ_ ((by rw [hg]; exact (below_size (bl1 HB GE107)) : w.heap.size ≤ gb108)); replace HB := aZ_ (below_step (bl1 HB GE107) hb); have NB107_108 := aZ_ ((by rw [hg]; exact Nat.ne_of_lt (blk_lt (g := gb107) (o := .cells #[.string a0_0, .string a0_1] 28 (0, 0)) (bk BK107)) : gb107 ≠ gb108)); have NB108_107 := aZ_ ((by rw [hg]; exact Nat.ne_of_gt (blk_lt (g := gb107) (o := .cells #[.string a0_0, .string a0_1] 28 (0, 0)) (bk BK107)) : gb108 ≠ gb107)); replace BK107 := aZ_ (blk_below (g := gb107) (o := .cells #[.string a0_0, .string a0_1] 28 (0, 0)) (bk BK107) hb); clear hb hbox hg; have hnb6 := NB107_108.out; have hnc6 := NB108_107.out; obtain ⟨hcz7_0, hcz7_1, hfz7_0, hfz7_1⟩ := bc2 BK107; obtain ⟨hcz8_0, hcz8_1, hfz8_0, hfz8_1⟩ := bc2 BK108))
  go_ret
  exact ⟨by first | rfl | (simp [errW_none, errW_some] <;> rfl) | (simp [*, errW_none, errW_some] <;> rfl), bl2 HB GE107 GE108⟩
 ·
  rw [if_neg c3] at H
  have c3b0 : (a0_0.toList == a1_0.toList) = false := beq_eq_false_iff_ne.mpr c3
  have c3b1 : (a0_0.toList != a1_0.toList) = true := bne_iff_ne.mpr c3
  obtain rfl := Option.some.inj H
  go_enter Try.func45, Try.ntmps45
  go_wp2_with (first | ((with_reducible refine gate_dst (N := 2) rfl ?_); refine bxE 2 #[.string a0_0, .string a0_1] 28 ?_; intro gb107 hg w9 hbox hb; have BK107 := aZ_ (hbox); have GW107 := aZ_ ((by rw [hg]; exact (below_size (bl HB)) : w.heap.size ≤ gb107)); have GE107 := aZ_ ((by rw [hg]; exact (below_size (bl HB)) : w.heap.size ≤ gb107)); replace HB := aZ_ (below_step (bl HB) hb); clear hb hbox hg) | ((with_reducible refine gate_dst (N := 3) rfl ?_); refine bxE 3 #[.string a1_0, .string a1_1] 28 ?_; intro gb108 hg w10 hbox hb; have BK108 := aZ_ (hbox); have GW108 := aZ_ ((by rw [hg]; exact (below_size (bl1 HB GE107)) : w.heap.size ≤ gb108)); have GE108 := aZ_ ((by rw [hg]; exact (below_size (bl1 HB GE107)) : w.heap.size ≤ gb108)); replace HB := aZ_ (below_step (bl1 HB GE107) hb); have NB107_108 := aZ_ ((by rw [hg]; exact Nat.ne_of_lt (blk_lt (g := gb107) (o := .cells #[.string a0_0, .string a0_1] 28 (0, 0)) (bk BK107)) : gb107 ≠ gb108)); have NB108_107 := aZ_ ((by rw [hg]; exact Nat.ne_of_gt (blk_lt (g := gb107) (o := .cells #[.string a0_0, .string a0_1] 28 (0, 0)) (bk BK107)) : gb108 ≠ gb107)); replace BK107 := aZ_ (blk_below (g := gb107) (o := .cells #[.string a0_0, .string a0_1] 28 (0, 0)) (bk BK107) hb); clear hb hbox hg; have hnb11 := NB107_108.out; have hnc11 := NB108_107.out; obtain ⟨hcz12_0, hcz12_1, hfz12_0, hfz12_1⟩ := bc2 BK107; obtain ⟨hcz13_0, hcz13_1, hfz13_0, hfz13_1⟩ := bc2 BK108))
  go_ret
  exact ⟨by first | rfl | (simp [errW_none, errW_some] <;> rfl) | (simp [*, errW_none, errW_some] <;> rfl), bl2 HB GE107 GE108⟩

end Go.Proofs.Ytelibndkkokadaa.GB
