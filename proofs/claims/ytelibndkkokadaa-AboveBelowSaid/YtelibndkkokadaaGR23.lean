-- Written by wip/tools/gprint.py over the kit's printer.
import Derived.Test.YtelibndkkokadaaGB0
import Derived.Test.YtelibndkkokadaaJk
import Derived.Test.YtelibndkkokadaaJc
import Derived.Test.YtelibndkkokadaaJe
import Derived.Test.YtelibndkkokadaaJh
import Derived.Test.YtelibndkkokadaaGB15
import Derived.Test.YtelibndkkokadaaGB17
import Derived.Test.YtelibndkkokadaaSqz
namespace Go.Proofs.Ytelibndkkokadaa.GB
open Go.RowKit Go.Proofs.YtelibndkkokadaaW.PrintWords Go.Proofs.YtelibndkkokadaaW.PrintLast Go.Proofs.Ytelibndkkokadaa.HandV Go.Proofs.YtelibndkkokadaaW.PrintMore
attribute [local go_sem] max2_int min2_int max_two min_two max_three min_three max_four min_four   -- for this text's walks alone
set_option linter.unusedVariables false
set_option linter.unusedSimpArgs false

attribute [local go_sem high] eqA28
/-! ### chancellaw9_AboveBelow: function 6 -/
mutual
def chancellaw9_AboveBelow.l0 : Nat → List (S38) → List (S28) → Int → ByteArray → ByteArray → Option (Bool)
 | 0, _, _, _, _, _ => none
 | k + 1, x5, x7, x8, x601000, x601001 => if x8 < (x5.length : Int) then (chancellaw9_AboveBelow.l1 k x5 x7 x8 false 0 x601000 x601001) else (some true)
def chancellaw9_AboveBelow.l1 : Nat → List (S38) → List (S28) → Int → Bool → Int → ByteArray → ByteArray → Option (Bool)
 | 0, _, _, _, _, _, _, _ => none
 | k + 1, x5, x7, x8, x9, x10, x601000, x601001 => if x10 < (x7.length : Int) then (if x9 = true then (chancellaw9_AboveBelow.l1 k x5 x7 x8 true (wrap64 (x10 + 1)) x601000 x601001) else (if 0 ≤ x10 then (if 0 ≤ x8 then (if x8 < (x5.length : Int) then (chancellaw9_AboveBelow.l1 k x5 x7 x8 ((((rd_T28 x7 x10).f0).toList) == (((rd_T38 x5 x8).f0.f0).toList) && ((((rd_T28 x7 x10).f1).toList) == (((rd_T38 x5 x8).f0.f1).toList))) (wrap64 (x10 + 1)) x601000 x601001) else (none)) else (none)) else (none))) else (if 0 ≤ x8 then (if x8 < (x5.length : Int) then (if (!((((rd_T38 x5 x8).f0.f0).toList) == x601000.toList) || (!((((rd_T38 x5 x8).f0.f1).toList) == x601001.toList))) = true then ((above_In.f x5 ((rd_T38 x5 x8).f0.f0) ((rd_T38 x5 x8).f0.f1) x601000 x601001).bind fun t608 => (if (x9 != t608) = true then (some false) else (chancellaw9_AboveBelow.l0 k x5 x7 (wrap64 (x8 + 1)) x601000 x601001))) else (if (x9 != false) = true then (some false) else (chancellaw9_AboveBelow.l0 k x5 x7 (wrap64 (x8 + 1)) x601000 x601001))) else (none)) else (none))
end
def chancellaw9_AboveBelow.g (k : Nat) (t595 : List (S38)) (a1 : Int) : Option (Bool) := (if (t595.length : Int) = 0 then (some true) else ((chancellaw9_within.f a1 (t595.length : Int)).bind fun t598 => (if 0 ≤ t598 then (if t598 < (t595.length : Int) then ((above_Below.f k t595 ((rd_T38 t595 t598).f0.f0) ((rd_T38 t595 t598).f0.f1)).bind fun t601 => (chancellaw9_AboveBelow.l0 k t595 t601 0 ((rd_T38 t595 t598).f0.f0) ((rd_T38 t595 t598).f0.f1))) else (none)) else (none))))
theorem chancellaw9_AboveBelow.mono_l : ∀ k, (∀ y0 y1 y2 y3 y4, LeO (chancellaw9_AboveBelow.l0 k y0 y1 y2 y3 y4) (chancellaw9_AboveBelow.l0 (k + 1) y0 y1 y2 y3 y4)) ∧ (∀ y0 y1 y2 y3 y4 y5 y6, LeO (chancellaw9_AboveBelow.l1 k y0 y1 y2 y3 y4 y5 y6) (chancellaw9_AboveBelow.l1 (k + 1) y0 y1 y2 y3 y4 y5 y6))
 | 0 => ⟨fun _ _ _ _ _ r h => by simp [chancellaw9_AboveBelow.l0] at h, fun _ _ _ _ _ _ _ r h => by simp [chancellaw9_AboveBelow.l1] at h⟩
 | k + 1 => by
  obtain ⟨ih0, ih1⟩ := chancellaw9_AboveBelow.mono_l k
  refine ⟨?_, ?_⟩
  ·
   intro y0 y1 y2 y3 y4
   unfold chancellaw9_AboveBelow.l0
   repeat' first
   | (with_reducible exact ih0 _ _ _ _ _)
   | (with_reducible exact ih1 _ _ _ _ _ _ _)
   | (with_reducible exact above_Below.mono _ _ _ _)
   | (with_reducible exact LeO.refl _)
   | (with_reducible exact LeO.none _)
   | (with_reducible refine LeO.ite ?_ ?_)
   | (with_reducible refine LeO.bind ?_ (fun _ => ?_))
   | exact ih0 _ _ _ _ _
   | exact ih1 _ _ _ _ _ _ _
   | exact above_Below.mono _ _ _ _
   | exact LeO.none _
   | refine LeO.ite ?_ ?_
   | refine LeO.bind ?_ (fun _ => ?_)
  ·
   intro y0 y1 y2 y3 y4 y5 y6
   unfold chancellaw9_AboveBelow.l1
   repeat' first
   | (with_reducible exact ih0 _ _ _ _ _)
   | (with_reducible exact ih1 _ _ _ _ _ _ _)
   | (with_reducible exact above_Below.mono _ _ _ _)
   | (with_reducible exact LeO.refl _)
   | (with_reducible exact LeO.none _)
   | (with_reducible refine LeO.ite ?_ ?_)
   | (with_reducible refine LeO.bind ?_ (fun _ => ?_))
   | exact ih0 _ _ _ _ _
   | exact ih1 _ _ _ _ _ _ _
   | exact above_Below.mono _ _ _ _
   | exact LeO.none _
   | refine LeO.ite ?_ ?_
   | refine LeO.bind ?_ (fun _ => ?_)
def chancellaw9_AboveBelow.T15 : Bool × List (List Nat × List Nat) := (true, [([], []), ([0], [0]), ([1], [1]), ([1], [1]), ([2, 3, 1], [1, 2, 3]), ([4, 1], [1, 4]), ([1], [1]), ([1], [1]), ([6, 7, 1], [1, 6, 7]), ([8, 1], [1, 8]), ([9, 1], [1, 9]), ([5, 10, 1], [1, 5, 10]), ([1, 11], [1, 11]), ([12, 1, 0, 1, 2, 3, 4, 5, 6, 7, 8, 9, 10, 11, 12], [0, 12])])
def chancellaw9_AboveBelow.B15 : List Nat := [0, 1, 3, 3, 15, 31, 3, 3, 195, 451, 963, 2047, 4095, 8191]
theorem chancellaw9_AboveBelow.tab15 : rtab .any (opsOf Try.f6 15) = chancellaw9_AboveBelow.T15 := by kernel_rfl
theorem chancellaw9_AboveBelow.bits15 : waitsOk chancellaw9_AboveBelow.T15.2 chancellaw9_AboveBelow.B15 = true := by kernel_rfl
def chancellaw9_AboveBelow.T16 : Bool × List (List Nat × List Nat) := (true, [([], []), ([], []), ([], []), ([1, 2], [1, 2]), ([3], [3]), ([4], [4]), ([], []), ([5, 6], [5, 6]), ([7], [7]), ([8], [8]), ([8], [8]), ([8], [8]), ([10, 11, 8], [8, 10, 11]), ([12, 8], [8, 12]), ([13, 8], [8, 13]), ([8], [8]), ([9, 14, 15, 8, 8], [8, 9, 14, 15]), ([8, 16], [8, 16]), ([0, 17], [0, 17])])
def chancellaw9_AboveBelow.B16 : List Nat := [0, 0, 0, 6, 14, 30, 0, 126, 254, 510, 510, 510, 3582, 7678, 15870, 510, 65534, 131070, 262143]
theorem chancellaw9_AboveBelow.tab16 : rtab .any (opsOf Try.f6 16) = chancellaw9_AboveBelow.T16 := by kernel_rfl
theorem chancellaw9_AboveBelow.bits16 : waitsOk chancellaw9_AboveBelow.T16.2 chancellaw9_AboveBelow.B16 = true := by kernel_rfl
set_option maxHeartbeats 8000000 in
set_option maxRecDepth 100000 in
theorem chancellaw9_AboveBelow.calls (A0 : Option Addr) (c0 : Nat) (l0 : List (S49)) (a1 : Int) (r : Bool) (w : World) (hr0 : Kd.C k49 w A0 l0.length l0) (hc0 : l0.length ≤ c0) (h : ∀ g, GP.AnyG g → ∃ k, chancellaw9_AboveBelow.g k g a1 = some r) :
  Calls Try.prog 6 #[.slice A0 l0.length c0, .int .i64 a1] w fun e w' => e = .returned (.bool r) ∧ Below w.heap.size w w' := by
 have hu28 := Try.underlying28
 have HR0 := aZ_ hr0
 have HC0 := aZ_ hc0
 clear hr0 hc0
 have HB := aZ_ (Below.refl w.heap.size w)
 have A3 := aZ_ (rfl : chancellaw9_known.f = some true)
 have HH := aZ_ h
 clear h
 go_enter Try.func6, Try.ntmps6
 go_upto_region 4 with (first | (go_at_call 13; refine (chancellaw9_known.calls  true _ A3.out).mono ?_; rintro e w14 ⟨rfl, hb⟩; replace HB := aZ_ (below_step (bl HB) hb); (try clear hb); (try clear hb2); (try clear hk); (try clear hi)) | (go_at_call 14; refine (GA.rgood8 l0 _ _ _ ?side1 ?side2).mono ?_; (case side1 => exact kC (Kd.C_below HR0.out HB.out)); (case side2 => exact HC0.out); rintro e wG ⟨vG, t595, rfl, hag_, ho0, hb⟩; have HAG := aZ_ hag_; clear hag_; have HO597 := aZ_ (Kd.N_lower (Kd.N_mono (ok' := fun k_ => True) ho0 (fun k_ hk_ => trivial)) (below_size (bl HB))); replace HB := aZ_ (below_step (bl HB) hb); (try clear hb); (try clear hb2); (try clear hk); (try clear hi); (try clear ho0); obtain ⟨AoG, coG, eoG⟩ := Kd.N_slice HO597.out; subst eoG))
 obtain ⟨k, H⟩ := HH.out t595 HAG.out
 clear HH
 replace H : (if (t595.length : Int) = 0 then (some true) else ((chancellaw9_within.f a1 (t595.length : Int)).bind fun t598 => (if 0 ≤ t598 then (if t598 < (t595.length : Int) then ((above_Below.f k t595 ((rd_T38 t595 t598).f0.f0) ((rd_T38 t595 t598).f0.f1)).bind fun t601 => (chancellaw9_AboveBelow.l0 k t595 t601 0 ((rd_T38 t595 t598).f0.f0) ((rd_T38 t595 t598).f0.f1))) else (none)) else (none)))) = some r := H
 by_cases c4 : True
 ·
  clear c4
  by_cases c6 : (t595.length : Int) = 0
  ·
   rw [if_pos c6] at H
   have c6b0 : ((t595.length : Int) == 0) = true := beq_iff_eq.mpr c6
   have c6b1 : ((t595.length : Int) != 0) = false := bne_eq_false_iff_eq.mpr c6
   clear c6
   obtain rfl := Option.some.inj H
   try go_wp2
   go_ret
   exact ⟨by first | rfl | (simp [errW_none, errW_some] <;> rfl) | (simp [*, errW_none, errW_some] <;> rfl), bl HB⟩
  ·
   rw [if_neg c6] at H
   have c6b0 : ((t595.length : Int) == 0) = false := beq_eq_false_iff_ne.mpr c6
   have c6b1 : ((t595.length : Int) != 0) = true := bne_iff_ne.mpr c6
   have c6b2 : ¬ (t595 = []) := fun h_ => c6 (by rw [h_]; rfl)
   replace H := Option.bind_eq_some_iff.mp H
   obtain ⟨t598, A100, H⟩ := H
   replace H : (if 0 ≤ t598 then (if t598 < (t595.length : Int) then ((above_Below.f k t595 ((rd_T38 t595 t598).f0.f0) ((rd_T38 t595 t598).f0.f1)).bind fun t601 => (chancellaw9_AboveBelow.l0 k t595 t601 0 ((rd_T38 t595 t598).f0.f0) ((rd_T38 t595 t598).f0.f1))) else (none)) else (none)) = some r := H
   have A10 := aZ_ A100
   clear A100
   by_cases c11 : 0 ≤ t598
   ·
    rw [if_pos c11] at H
    have c11b0 : decide (0 ≤ t598) = true := decide_eq_true c11
    clear c11
    by_cases c12 : t598 < (t595.length : Int)
    ·
     rw [if_pos c12] at H
     have c12b0 : decide (t598 < (t595.length : Int)) = true := decide_eq_true c12
     clear c12
     replace H := Option.bind_eq_some_iff.mp H
     obtain ⟨t601, A130, H⟩ := H
     replace H : (chancellaw9_AboveBelow.l0 k t595 t601 0 ((rd_T38 t595 t598).f0.f0) ((rd_T38 t595 t598).f0.f1)) = some r := H
     have A13 := aZ_ A130
     clear A130
     have H' := aZ_ H
     clear H
     go_wp2_with (first | ((with_reducible refine gate_callee (f := 25) rfl ?_); refine goesL_ (some 22) rfl rfl Try.func25 (by kernel_rfl) rfl #[.int .i64 a1, .int .i64 (t595.length : Int)] rfl gm_ ?_; (with_reducible refine (chancellaw9_within.calls a1 (t595.length : Int) t598 _ A10.out).mono ?_); rintro e w' ⟨rfl, ⟨nd, rfl⟩⟩; refine ⟨_, rfl, ?_⟩; (try (rw [drewN_self wG]; generalize hq_ : World.drewN wG _ = wG; have n0_ : Aside0 (Kd.N k38 38 wG w.heap.size (fun _ => True) (.slice AoG t595.length coG) t595) := ⟨by rw [← hq_]; exact (kN HO597)⟩; have n1_ : Aside0 (Below w.heap.size w wG) := ⟨by rw [← hq_]; exact (bl HB)⟩; clear HO597 HB hq_; have HO597 := n0_; have HB := n1_; clear n0_ n1_)); have p599 : 0 ≤ (t598 : Int) := of_decide_eq_true asm_; have q599 : t598 < (t595.length : Int) := of_decide_eq_true asm_; obtain ⟨ad599, A599_2, c599_2, A599_3, c599_3, e599, hx599_0, hx599_1, hx599_2, hx599_3, hl599_2, hi599_2, hl599_3, hi599_3⟩ := at_T38 (Kd.N_reads' HO597.out).2.2 t598 p599 q599; cases e599; obtain ⟨ce599, hce599, hMe599, hcc599⟩ := Kd.N_get HO597.out z38 t598 p599 (by first | exact q599 | exact of_decide_eq_true asm_ | (have e_ := (Kd.N_reads' HO597.out).1; omega)); obtain ⟨ua599_2, uc599_2, ua599_3, uc599_3, rfl, ul599_2, ge599_2, ul599_3, ge599_3⟩ := k38_openF hMe599; have hv599_2 := hcc599 2 _ rfl; rw [add_field _ _ 2 (by omega)] at hv599_2; replace hv599_2 := Option.some.inj (hv599_2.symm.trans hx599_2); injection hv599_2 with hva_ hvn_ hvc_; rw [hva_] at ge599_2; rw [hvc_] at ul599_2; have HL599_2 := aZ_ (show Kd.V k28 28 _ w.heap.size _ _ ((rd_T38 t595 t598).f1) from Kd.V_mk ul599_2 ge599_2); clear hva_ hvn_ hvc_ ge599_2 ul599_2; have hv599_3 := hcc599 3 _ rfl; rw [add_field _ _ 3 (by omega)] at hv599_3; replace hv599_3 := Option.some.inj (hv599_3.symm.trans hx599_3); injection hv599_3 with hva_ hvn_ hvc_; rw [hva_] at ge599_3; rw [hvc_] at ul599_3; have HL599_3 := aZ_ (show Kd.V k58 58 _ w.heap.size _ _ ((rd_T38 t595 t598).f2) from Kd.V_mk ul599_3 ge599_3); clear hva_ hvn_ hvc_ ge599_3 ul599_3; clear hcc599 hce599; have HR599_2 := aZ_ hi599_2; have HC599_2 := aZ_ hl599_2; clear hi599_2 hl599_2; have HR599_3 := aZ_ hi599_3; have HC599_3 := aZ_ hl599_3; clear hi599_3 hl599_3; replace p599 := eq_true p599; replace q599 := eq_true q599) | ((with_reducible refine gate_dst (N := 6) rfl ?_); refine bxE 6 #[.string (⟨#[]⟩ : ByteArray), .string (⟨#[]⟩ : ByteArray)] 28 ?_; intro gb600 hg w17 hbox hb; replace HO597 := aZ_ (Kd.N_below (Kd.N_elderB (kN HO597) gb600 (Nat.le_of_eq hg.symm)) hb); replace HL599_2 := aZ_ (Kd.V_below (Kd.V_elderB (kV HL599_2) gb600 (Nat.le_of_eq hg.symm)) hb); replace HL599_3 := aZ_ (Kd.V_below (Kd.V_elderB (kV HL599_3) gb600 (Nat.le_of_eq hg.symm)) hb); replace HR599_2 := aZ_ (Kd.C_below (kD HR599_2) hb); replace HR599_3 := aZ_ (Kd.C_below (kD HR599_3) hb); have BK600 := aZ_ (hbox); have GW600 := aZ_ ((by rw [hg]; exact (below_size (bl HB)) : w.heap.size ≤ gb600)); have GE600 := aZ_ ((by rw [hg]; exact (below_size (bl HB)) : w.heap.size ≤ gb600)); replace HB := aZ_ (below_step (bl HB) hb); clear hb hbox hg; obtain ⟨hcz18_0, hcz18_1, hfz18_0, hfz18_1⟩ := bc2 BK600) | ((with_reducible refine gate_callee (f := 21) rfl ?_); refine goesL_ (some 28) rfl rfl Try.func21 (by kernel_rfl) rfl #[.slice (some ad599) t595.length coG, .agg #[.string ((rd_T38 t595 t598).f0.f0), .string ((rd_T38 t595 t598).f0.f1)]] rfl gm_ ?_; (with_reducible refine (above_Below.calls k _ _ t595 ((rd_T38 t595 t598).f0.f0) ((rd_T38 t595 t598).f0.f1) t601 _ ?side1 ?side2 A13.out).mono ?_); (case side1 => refine (Kd.N_reads' (e := 38) (base := w.heap.size) (ok := fun k_ => (True ∧ k_ ≠ gb600)) (n := t595.length) (c := coG) ?_).2.2; exact (by (with_reducible repeat (first | apply Kd.N_alloc | apply Kd.N_drewN | apply Kd.N_drew)); exact (Kd.N_mono (Kd.N_far (p := ⟨gb600, 1, none⟩) (Kd.N_far (p := ⟨gb600, 0, none⟩) (Kd.N_mono HO597.out (fun k_ hk => (⟨hk, hk.2⟩ : _ ∧ k_ ≠ gb600))) (fun _ hk => hk.2) (.string ((rd_T38 t595 t598).f0.f0))) (fun _ hk => hk.2) (.string ((rd_T38 t595 t598).f0.f1))) (fun _ h_ => h_.1)))); (case side2 => exact (Kd.N_reads' HO597.out).2.1); rintro e w19 ⟨v602, rfl, ho0, hb⟩; refine ⟨_, rfl, ?_⟩; replace HO597 := aZ_ (Kd.N_elder' (by (with_reducible repeat (first | apply Kd.N_alloc | apply Kd.N_drewN | apply Kd.N_drew)); exact (Kd.N_mono (Kd.N_far (p := ⟨gb600, 1, none⟩) (Kd.N_far (p := ⟨gb600, 0, none⟩) (Kd.N_mono HO597.out (fun k_ hk => (⟨hk, hk.2⟩ : _ ∧ k_ ≠ gb600))) (fun _ hk => hk.2) (.string ((rd_T38 t595 t598).f0.f0))) (fun _ hk => hk.2) (.string ((rd_T38 t595 t598).f0.f1))) (fun _ h_ => h_.1))) (Kd.R_base ho0) hb); have HO603 := aZ_ (Kd.R_lower (Kd.R_newB ho0 (g := gb600) (o := .cells #[.string ((rd_T38 t595 t598).f0.f0), .string ((rd_T38 t595 t598).f0.f1)] 28 (0, 0)) (by (with_reducible repeat (first | refine blk_drewN ?_ _ | refine blk_drew ?_ | refine blk_alloc ?_ _)); refine blk_put (cs := #[.string ((rd_T38 t595 t598).f0.f0), .string (⟨#[]⟩ : ByteArray)]) ?_ 1 _ rfl; (with_reducible repeat (first | refine blk_drewN ?_ _ | refine blk_drew ?_ | refine blk_alloc ?_ _)); refine blk_put (cs := #[.string (⟨#[]⟩ : ByteArray), .string (⟨#[]⟩ : ByteArray)]) ?_ 0 _ rfl; (with_reducible repeat (first | refine blk_drewN ?_ _ | refine blk_drew ?_ | refine blk_alloc ?_ _)); exact BK600.out)) (below_size (bl1 HB GE600))); replace HR599_2 := aZ_ (Kd.C_below ((Kd.V_reads' (by (with_reducible repeat (first | apply Kd.V_alloc | apply Kd.V_drewN | apply Kd.V_drew)); exact (Kd.V_mono (Kd.V_far (p := ⟨gb600, 1, none⟩) (Kd.V_far (p := ⟨gb600, 0, none⟩) (Kd.V_mono HL599_2.out (fun k_ hk => (⟨hk, hk.2⟩ : _ ∧ k_ ≠ gb600))) (fun _ hk => hk.2) (.string ((rd_T38 t595 t598).f0.f0))) (fun _ hk => hk.2) (.string ((rd_T38 t595 t598).f0.f1))) (fun _ h_ => h_.1)))).2.2) hb); replace HL599_2 := aZ_ (Kd.V_elder' (by (with_reducible repeat (first | apply Kd.V_alloc | apply Kd.V_drewN | apply Kd.V_drew)); exact (Kd.V_mono (Kd.V_far (p := ⟨gb600, 1, none⟩) (Kd.V_far (p := ⟨gb600, 0, none⟩) (Kd.V_mono HL599_2.out (fun k_ hk => (⟨hk, hk.2⟩ : _ ∧ k_ ≠ gb600))) (fun _ hk => hk.2) (.string ((rd_T38 t595 t598).f0.f0))) (fun _ hk => hk.2) (.string ((rd_T38 t595 t598).f0.f1))) (fun _ h_ => h_.1))) (Kd.R_base ho0) hb); replace HR599_3 := aZ_ (Kd.C_below ((Kd.V_reads' (by (with_reducible repeat (first | apply Kd.V_alloc | apply Kd.V_drewN | apply Kd.V_drew)); exact (Kd.V_mono (Kd.V_far (p := ⟨gb600, 1, none⟩) (Kd.V_far (p := ⟨gb600, 0, none⟩) (Kd.V_mono HL599_3.out (fun k_ hk => (⟨hk, hk.2⟩ : _ ∧ k_ ≠ gb600))) (fun _ hk => hk.2) (.string ((rd_T38 t595 t598).f0.f0))) (fun _ hk => hk.2) (.string ((rd_T38 t595 t598).f0.f1))) (fun _ h_ => h_.1)))).2.2) hb); replace HL599_3 := aZ_ (Kd.V_elder' (by (with_reducible repeat (first | apply Kd.V_alloc | apply Kd.V_drewN | apply Kd.V_drew)); exact (Kd.V_mono (Kd.V_far (p := ⟨gb600, 1, none⟩) (Kd.V_far (p := ⟨gb600, 0, none⟩) (Kd.V_mono HL599_3.out (fun k_ hk => (⟨hk, hk.2⟩ : _ ∧ k_ ≠ gb600))) (fun _ hk => hk.2) (.string ((rd_T38 t595 t598).f0.f0))) (fun _ hk => hk.2) (.string ((rd_T38 t595 t598).f0.f1))) (fun _ h_ => h_.1))) (Kd.R_base ho0) hb); replace BK600 := aZ_ (blk_below (g := gb600) (o := .cells #[.string ((rd_T38 t595 t598).f0.f0), .string ((rd_T38 t595 t598).f0.f1)] 28 (0, 0)) (by (with_reducible repeat (first | refine blk_drewN ?_ _ | refine blk_drew ?_ | refine blk_alloc ?_ _)); refine blk_put (cs := #[.string ((rd_T38 t595 t598).f0.f0), .string (⟨#[]⟩ : ByteArray)]) ?_ 1 _ rfl; (with_reducible repeat (first | refine blk_drewN ?_ _ | refine blk_drew ?_ | refine blk_alloc ?_ _)); refine blk_put (cs := #[.string (⟨#[]⟩ : ByteArray), .string (⟨#[]⟩ : ByteArray)]) ?_ 0 _ rfl; (with_reducible repeat (first | refine blk_drewN ?_ _ | refine blk_drew ?_ | refine blk_alloc ?_ _)); exact BK600.out) hb); replace HB := aZ_ (below_step (bl1 HB GE600) hb); (try clear hb); (try clear hb2); (try clear hk); (try clear hi); (try clear ho0)))
     go_loopg [8] k (fun kq v8 w' => ∃ (x8_1 : Int), v8 = .int .i64 x8_1 ∧ Aside0 (chancellaw9_AboveBelow.l0 kq t595 t601 x8_1 ((rd_T38 t595 t598).f0.f0) ((rd_T38 t595 t598).f0.f1) = some r) ∧ Aside0 (kq ≤ k) ∧ Aside0 (Kd.N k38 38 w' w.heap.size (fun k_ => some k_ ≠ (v602 : Value).ownBlock ∧ k_ ≠ gb600) (.slice (some ad599) t595.length coG) t595) ∧ Aside0 (Kd.R k28 28 w' w.heap.size (fun k_ => k_ ≠ gb600) v602 t601) ∧ Aside0 (w'.heap[gb600]? = some (.cells #[.string ((rd_T38 t595 t598).f0.f0), .string ((rd_T38 t595 t598).f0.f1)] 28 (0, 0))) ∧ Aside0 (Kd.C k28 w' A599_2 ((rd_T38 t595 t598).f1).length ((rd_T38 t595 t598).f1)) ∧ Aside0 (Kd.C k58 w' A599_3 ((rd_T38 t595 t598).f2).length ((rd_T38 t595 t598).f2)) ∧ Aside0 (Below w.heap.size w w'))
     case atStart => exact ⟨(0), rf_, H', ⟨Nat.le_refl _⟩, ⟨by (with_reducible repeat (first | apply Kd.N_alloc | apply Kd.N_drewN | apply Kd.N_drew)); exact Kd.N_mono HO597.out (fun _ hk => ⟨hk.2, hk.1.2⟩)⟩, ⟨by (with_reducible repeat (first | apply Kd.R_alloc | apply Kd.R_drewN | apply Kd.R_drew)); exact Kd.R_mono HO603.out (fun _ hk => hk.2)⟩, ⟨bk BK600⟩, ⟨kD HR599_2⟩, ⟨kD HR599_3⟩, ⟨bl1 HB GE600⟩⟩
     case round =>
      clear H'
      try clear c1
      try clear c2
      try clear p2
      try clear c4
      try clear c5
      try clear p5
      try clear q5
      try clear hx5
      try clear c6
      try clear c6b0
      try clear c6b1
      try clear c6b2
      try clear c11
      try clear c11b0
      try clear c12
      try clear c12b0
      try clear c13
      try clear c14
      try clear hcz18_0
      try clear hcz18_1
      try clear hfz18_0
      try clear hfz18_1
      try clear hx599_0
      try clear hx599_1
      try clear hx599_2
      try clear hx599_3
      try clear p599
      try clear q599
      obtain ⟨x8_1, rfl, HA, HK1, HO_5, HO_7, BK600, HR599_2, HR599_3, HB⟩ := hrel
      cases gk with
      | zero => exact absurd HA.out (by simp [chancellaw9_AboveBelow.l0])
      | succ k1 =>
       have H := HA.out
       clear HA
       simp only [chancellaw9_AboveBelow.l0] at H
       by_cases c20 : x8_1 < (t595.length : Int)
       ·
        rw [if_pos c20] at H
        have c20b0 : decide (x8_1 < (t595.length : Int)) = true := decide_eq_true c20
        clear c20
        have H' := aZ_ H
        clear H
        go_wp2
        go_loopg [9, 10] k1 (fun kq v9 v10 w' => ∃ (x9_2 : Bool) (x10_2 : Int), v9 = .bool x9_2 ∧ v10 = .int .i64 x10_2 ∧ Aside0 (chancellaw9_AboveBelow.l1 kq t595 t601 x8_1 x9_2 x10_2 ((rd_T38 t595 t598).f0.f0) ((rd_T38 t595 t598).f0.f1) = some r) ∧ Aside0 (kq ≤ k1) ∧ Aside0 (Kd.N k38 38 w' w.heap.size (fun k_ => some k_ ≠ (v602 : Value).ownBlock ∧ k_ ≠ gb600) (.slice (some ad599) t595.length coG) t595) ∧ Aside0 (Kd.R k28 28 w' w.heap.size (fun k_ => k_ ≠ gb600) v602 t601) ∧ Aside0 (w'.heap[gb600]? = some (.cells #[.string ((rd_T38 t595 t598).f0.f0), .string ((rd_T38 t595 t598).f0.f1)] 28 (0, 0))) ∧ Aside0 (Kd.C k28 w' A599_2 ((rd_T38 t595 t598).f1).length ((rd_T38 t595 t598).f1)) ∧ Aside0 (Kd.C k58 w' A599_3 ((rd_T38 t595 t598).f2).length ((rd_T38 t595 t598).f2)) ∧ Aside0 (Below w.heap.size w w'))
        case atStart => exact ⟨(false), (0), rf_, rf_, H', ⟨Nat.le_refl _⟩, ⟨kN HO_5⟩, ⟨kR HO_7⟩, ⟨bk BK600⟩, ⟨kD HR599_2⟩, ⟨kD HR599_3⟩, ⟨bl1 HB GE600⟩⟩
        case round =>
         clear H'
         try clear c1
         try clear c2
         try clear p2
         try clear c4
         try clear c5
         try clear p5
         try clear q5
         try clear hx5
         try clear c6
         try clear c6b0
         try clear c6b1
         try clear c6b2
         try clear c11
         try clear c11b0
         try clear c12
         try clear c12b0
         try clear c13
         try clear c14
         try clear c20
         try clear c20b0
         try clear hcz18_0
         try clear hcz18_1
         try clear hfz18_0
         try clear hfz18_1
         try clear hx599_0
         try clear hx599_1
         try clear hx599_2
         try clear hx599_3
         try clear p2
         try clear p5
         try clear p599
         try clear q5
         try clear q599
         obtain ⟨x9_2, x10_2, rfl, rfl, HA, HK2, HO_5, HO_7, BK600, HR599_2, HR599_3, HB⟩ := hrel
         cases gk with
         | zero => exact absurd HA.out (by simp [chancellaw9_AboveBelow.l1])
         | succ k2 =>
          have H := HA.out
          clear HA
          simp only [chancellaw9_AboveBelow.l1] at H
          by_cases c21 : x10_2 < (t601.length : Int)
          ·
           rw [if_pos c21] at H
           have c21b0 : decide (x10_2 < (t601.length : Int)) = true := decide_eq_true c21
           clear c21
           by_cases c22 : x9_2 = true
           ·
            subst c22
            have H1 : (chancellaw9_AboveBelow.l1 k2 t595 t601 x8_1 true (wrap64 (x10_2 + 1)) ((rd_T38 t595 t598).f0.f0) ((rd_T38 t595 t598).f0.f1)) = some r := by rw [if_pos rfl] at H; exact H
            clear H
            have H := H1
            clear H1
            have H' := aZ_ H
            clear H
            obtain ⟨Ao23, co23, eo23⟩ := Kd.R_slice HO_7.out
            subst eo23
            try go_wp2
            replace HO_5 := aZ_ (Kd.N_drew HO_5.out)
            replace HO_7 := aZ_ (Kd.R_drew HO_7.out)
            replace BK600 := aZ_ (blk_drew BK600.out)
            replace HR599_2 := aZ_ (Kd.C_drew HR599_2.out)
            replace HR599_3 := aZ_ (Kd.C_drew HR599_3.out)
            replace HB := aZ_ (below_drew1 HB.out)
            refine start_ (n := 14) (S := fun w' => True) (ds := []) #[false, false, false, false, false, false, false, false, false, false, false, false, false, false] (by kernel_rfl) rfl rfl trivial (fun hHeld => ?_); refine with_tabW chancellaw9_AboveBelow.tab15 chancellaw9_AboveBelow.bits15 (fun HT_ HW_ => ?_)
            generalize wr.drew = w24 at HO_5 HO_7 BK600 HR599_2 HR599_3 HB hHeld ⊢
            refine pS_ 0 41 (fa 14 1) HT_ ?_
            refine pS_ 1 42 (fa 14 3) HT_ ?_
            refine pU_ 2 43 (fa 14 7) HT_ ?_
            refine pU_ 3 44 (fa 14 15) HT_ ?_
            refine pU_ 4 45 (fa 14 31) HT_ ?_
            refine pU_ 5 46 (fa 14 63) HT_ ?_
            refine pU_ 6 47 (fa 14 127) HT_ ?_
            refine pU_ 7 48 (fa 14 255) HT_ ?_
            refine pU_ 8 49 (fa 14 511) HT_ ?_
            refine pU_ 9 50 (fa 14 1023) HT_ ?_
            refine pU_ 10 51 (fa 14 2047) HT_ ?_
            refine pU_ 11 52 (fa 14 4095) HT_ ?_
            refine pS_ 12 53 (fa 14 8191) HT_ ?_
            refine pS_ 13 9 (fa 14 16383) HT_ ?_
            refine done_ (done_of HT_.out (by kernel_rfl)) ?_
            try go_wp2
            go_roundg k2
            case measure => have := HK1.out; have := HK2.out; omega
            case rel => exact ⟨(true), (wrap64 (x10_2 + 1)), rf_, rf_, H', ⟨by have := HK1.out; have := HK2.out; omega⟩, ⟨kN HO_5⟩, ⟨kR HO_7⟩, ⟨bk BK600⟩, ⟨kD HR599_2⟩, ⟨kD HR599_3⟩, ⟨bl1 HB GE600⟩⟩
           ·
            replace c22 := Bool.eq_false_iff.mpr c22
            subst c22
            have H1 : (if 0 ≤ x10_2 then (if 0 ≤ x8_1 then (if x8_1 < (t595.length : Int) then (chancellaw9_AboveBelow.l1 k2 t595 t601 x8_1 ((((rd_T28 t601 x10_2).f0).toList) == (((rd_T38 t595 x8_1).f0.f0).toList) && ((((rd_T28 t601 x10_2).f1).toList) == (((rd_T38 t595 x8_1).f0.f1).toList))) (wrap64 (x10_2 + 1)) ((rd_T38 t595 t598).f0.f0) ((rd_T38 t595 t598).f0.f1)) else (none)) else (none)) else (none)) = some r := by rw [if_neg (show ¬ (false = true) by decide)] at H; exact H
            clear H
            have H := H1
            clear H1
            by_cases c25 : 0 ≤ x10_2
            ·
             rw [if_pos c25] at H
             have c25b0 : decide (0 ≤ x10_2) = true := decide_eq_true c25
             clear c25
             by_cases c26 : 0 ≤ x8_1
             ·
              rw [if_pos c26] at H
              have c26b0 : decide (0 ≤ x8_1) = true := decide_eq_true c26
              clear c26
              by_cases c27 : x8_1 < (t595.length : Int)
              ·
               rw [if_pos c27] at H
               have c27b0 : decide (x8_1 < (t595.length : Int)) = true := decide_eq_true c27
               clear c27
               have H' := aZ_ H
               clear H
               obtain ⟨Ao28, co28, eo28⟩ := Kd.R_slice HO_7.out
               subst eo28
               try go_wp2
               replace HO_5 := aZ_ (Kd.N_drew HO_5.out)
               replace HO_7 := aZ_ (Kd.R_drew HO_7.out)
               replace BK600 := aZ_ (blk_drew BK600.out)
               replace HR599_2 := aZ_ (Kd.C_drew HR599_2.out)
               replace HR599_3 := aZ_ (Kd.C_drew HR599_3.out)
               replace HB := aZ_ (below_drew1 HB.out)
               have p604 : 0 ≤ (x10_2 : Int) := of_decide_eq_true asm_
               have q604 : x10_2 < (t601.length : Int) := of_decide_eq_true asm_
               obtain ⟨ad604, e604, hx604_0, hx604_1⟩ := at_T28 (Kd.R_reads' HO_7.out).2.2 x10_2 p604 q604
               cases e604
               replace p604 := eq_true p604
               replace q604 := eq_true q604
               have p605 : 0 ≤ (x8_1 : Int) := of_decide_eq_true asm_
               have q605 : x8_1 < (t595.length : Int) := of_decide_eq_true asm_
               obtain ⟨ad605, A605_2, c605_2, A605_3, c605_3, e605, hx605_0, hx605_1, hx605_2, hx605_3, hl605_2, hi605_2, hl605_3, hi605_3⟩ := at_T38 (Kd.N_reads' HO_5.out).2.2 x8_1 p605 q605
               obtain rfl : ad599 = ad605 := (by injection e605)
               obtain ⟨ce605, hce605, hMe605, hcc605⟩ := Kd.N_get HO_5.out z38 x8_1 p605 (by first | exact q605 | exact of_decide_eq_true asm_ | (have e_ := (Kd.N_reads' HO_5.out).1; omega))
               obtain ⟨ua605_2, uc605_2, ua605_3, uc605_3, rfl, ul605_2, ge605_2, ul605_3, ge605_3⟩ := k38_openF hMe605
               have hv605_2 := hcc605 2 _ rfl
               rw [add_field _ _ 2 (by omega)] at hv605_2
               replace hv605_2 := Option.some.inj (hv605_2.symm.trans hx605_2)
               injection hv605_2 with hva_ hvn_ hvc_
               rw [hva_] at ge605_2
               rw [hvc_] at ul605_2
               have HL605_2 := aZ_ (show Kd.V k28 28 _ w.heap.size _ _ ((rd_T38 t595 x8_1).f1) from Kd.V_mk ul605_2 ge605_2)
               clear hva_ hvn_ hvc_ ge605_2 ul605_2
               have hv605_3 := hcc605 3 _ rfl
               rw [add_field _ _ 3 (by omega)] at hv605_3
               replace hv605_3 := Option.some.inj (hv605_3.symm.trans hx605_3)
               injection hv605_3 with hva_ hvn_ hvc_
               rw [hva_] at ge605_3
               rw [hvc_] at ul605_3
               have HL605_3 := aZ_ (show Kd.V k58 58 _ w.heap.size _ _ ((rd_T38 t595 x8_1).f2) from Kd.V_mk ul605_3 ge605_3)
               clear hva_ hvn_ hvc_ ge605_3 ul605_3
               clear hcc605 hce605
               have HR605_2 := aZ_ hi605_2
               have HC605_2 := aZ_ hl605_2
               clear hi605_2 hl605_2
               have HR605_3 := aZ_ hi605_3
               have HC605_3 := aZ_ hl605_3
               clear hi605_3 hl605_3
               replace p605 := eq_true p605
               replace q605 := eq_true q605
               refine start_ (n := 14) (S := fun w' => w'.cell? (ad604.add ((x10_2).toNat * 2)) = some (.string ((rd_T28 t601 x10_2).f0)) ∧ w'.cell? ⟨(ad604.add ((x10_2).toNat * 2)).block, (ad604.add ((x10_2).toNat * 2)).off + 1, none⟩ = some (.string ((rd_T28 t601 x10_2).f1)) ∧ w'.cell? (ad599.add ((x8_1).toNat * 4)) = some (.string ((rd_T38 t595 x8_1).f0.f0)) ∧ w'.cell? ⟨(ad599.add ((x8_1).toNat * 4)).block, (ad599.add ((x8_1).toNat * 4)).off + 1, none⟩ = some (.string ((rd_T38 t595 x8_1).f0.f1)) ∧ w'.cell? ⟨(ad599.add ((x8_1).toNat * 4)).block, (ad599.add ((x8_1).toNat * 4)).off + 2, none⟩ = some (.slice A605_2 ((rd_T38 t595 x8_1).f1).length c605_2) ∧ w'.cell? ⟨(ad599.add ((x8_1).toNat * 4)).block, (ad599.add ((x8_1).toNat * 4)).off + 3, none⟩ = some (.slice A605_3 ((rd_T38 t595 x8_1).f2).length c605_3)) (ds := []) #[false, false, false, false, false, false, false, false, false, false, false, false, false, false] (by kernel_rfl) rfl rfl ⟨hx604_0, hx604_1, hx605_0, hx605_1, hx605_2, hx605_3⟩ (fun hHeld => ?_); refine with_tabW chancellaw9_AboveBelow.tab15 chancellaw9_AboveBelow.bits15 (fun HT_ HW_ => ?_)
               generalize wr.drew = w29 at HO_5 HO_7 BK600 HR599_2 HR599_3 HB HL605_2 HL605_3 HR605_2 HR605_3 hx604_0 hx604_1 hx605_0 hx605_1 hx605_2 hx605_3 hHeld ⊢
               refine pS_ 0 41 (fa 14 1) HT_ ?_
               refine pS_ 1 42 (fa 14 3) HT_ ?_
               refine pS_ 2 43 (fa 14 7) HT_ ?_
               refine pS_ 3 44 (fa 14 15) HT_ ?_
               refine pS_ 4 45 (fa 14 31) HT_ ?_
               refine pS_ 6 47 (fa 14 95) HT_ ?_
               refine pS_ 7 48 (fa 14 223) HT_ ?_
               refine pS_ 8 49 (fa 14 479) HT_ ?_
               refine pS_ 9 50 (fa 14 991) HT_ ?_
               refine tS_ 5 46 (fa 14 1023) HT_ HW_ hHeld ?_
               refine tS_ 10 51 (fa 14 2047) HT_ HW_ hHeld ?_
               refine pS_ 11 52 (fa 14 4095) HT_ ?_
               refine pS_ 12 53 (fa 14 8191) HT_ ?_
               refine pS_ 13 9 (fa 14 16383) HT_ ?_
               refine done_ (done_of HT_.out (by kernel_rfl)) ?_
               try go_wp2
               go_roundg k2
               case measure => have := HK1.out; have := HK2.out; omega
               case rel => exact ⟨(((((rd_T28 t601 x10_2).f0).toList) == (((rd_T38 t595 x8_1).f0.f0).toList) && ((((rd_T28 t601 x10_2).f1).toList) == (((rd_T38 t595 x8_1).f0.f1).toList)))), (wrap64 (x10_2 + 1)), rf_, rf_, H', ⟨by have := HK1.out; have := HK2.out; omega⟩, ⟨kN HO_5⟩, ⟨kR HO_7⟩, ⟨bk BK600⟩, ⟨kD HR599_2⟩, ⟨kD HR599_3⟩, ⟨bl1 HB GE600⟩⟩
              ·
               rw [if_neg c27] at H
               exact absurd H (by simp)
             ·
              rw [if_neg c26] at H
              exact absurd H (by simp)
            ·
             rw [if_neg c25] at H
             exact absurd H (by simp)
          ·
           rw [if_neg c21] at H
           have c21b0 : decide (x10_2 < (t601.length : Int)) = false := decide_eq_false c21
           clear c21
           by_cases c30 : 0 ≤ x8_1
           ·
            rw [if_pos c30] at H
            have c30b0 : decide (0 ≤ x8_1) = true := decide_eq_true c30
            clear c30
            by_cases c31 : x8_1 < (t595.length : Int)
            ·
             rw [if_pos c31] at H
             have c31b0 : decide (x8_1 < (t595.length : Int)) = true := decide_eq_true c31
             clear c31
             by_cases c32 : (!((((rd_T38 t595 x8_1).f0.f0).toList) == ((rd_T38 t595 t598).f0.f0).toList) || (!((((rd_T38 t595 x8_1).f0.f1).toList) == ((rd_T38 t595 t598).f0.f1).toList))) = true
             ·
              rw [if_pos c32] at H
              have c32b0 : (!((((rd_T38 t595 x8_1).f0.f0).toList) == ((rd_T38 t595 t598).f0.f0).toList) || (!((((rd_T38 t595 x8_1).f0.f1).toList) == ((rd_T38 t595 t598).f0.f1).toList))) = true := c32
              clear c32
              replace H := Option.bind_eq_some_iff.mp H
              obtain ⟨t608, A330, H⟩ := H
              replace H : (if (x9_2 != t608) = true then (some false) else (chancellaw9_AboveBelow.l0 k2 t595 t601 (wrap64 (x8_1 + 1)) ((rd_T38 t595 t598).f0.f0) ((rd_T38 t595 t598).f0.f1))) = some r := H
              have A33 := aZ_ A330
              clear A330
              by_cases c34 : (x9_2 != t608) = true
              ·
               rw [if_pos c34] at H
               have c34b0 : (x9_2 != t608) = true := c34
               (try (have c34b1 : decide (x9_2 = t608) = false := by simpa using c34))
               (try (have c34b2 : (x9_2 == t608) = false := by simpa using c34))
               (try (have c34b3 : ¬ (x9_2 = t608) := by simpa using c34))
               clear c34
               obtain rfl := Option.some.inj H
               obtain ⟨Ao35, co35, eo35⟩ := Kd.R_slice HO_7.out
               subst eo35
               try go_wp2
               replace HO_5 := aZ_ (Kd.N_drew HO_5.out)
               replace HO_7 := aZ_ (Kd.R_drew HO_7.out)
               replace BK600 := aZ_ (blk_drew BK600.out)
               replace HR599_2 := aZ_ (Kd.C_drew HR599_2.out)
               replace HR599_3 := aZ_ (Kd.C_drew HR599_3.out)
               replace HB := aZ_ (below_drew1 HB.out)
               have p606 : 0 ≤ (x8_1 : Int) := of_decide_eq_true asm_
               have q606 : x8_1 < (t595.length : Int) := of_decide_eq_true asm_
               obtain ⟨ad606, A606_2, c606_2, A606_3, c606_3, e606, hx606_0, hx606_1, hx606_2, hx606_3, hl606_2, hi606_2, hl606_3, hi606_3⟩ := at_T38 (Kd.N_reads' HO_5.out).2.2 x8_1 p606 q606
               obtain rfl : ad599 = ad606 := (by injection e606)
               obtain ⟨ce606, hce606, hMe606, hcc606⟩ := Kd.N_get HO_5.out z38 x8_1 p606 (by first | exact q606 | exact of_decide_eq_true asm_ | (have e_ := (Kd.N_reads' HO_5.out).1; omega))
               obtain ⟨ua606_2, uc606_2, ua606_3, uc606_3, rfl, ul606_2, ge606_2, ul606_3, ge606_3⟩ := k38_openF hMe606
               have hv606_2 := hcc606 2 _ rfl
               rw [add_field _ _ 2 (by omega)] at hv606_2
               replace hv606_2 := Option.some.inj (hv606_2.symm.trans hx606_2)
               injection hv606_2 with hva_ hvn_ hvc_
               rw [hva_] at ge606_2
               rw [hvc_] at ul606_2
               have HL606_2 := aZ_ (show Kd.V k28 28 _ w.heap.size _ _ ((rd_T38 t595 x8_1).f1) from Kd.V_mk ul606_2 ge606_2)
               clear hva_ hvn_ hvc_ ge606_2 ul606_2
               have hv606_3 := hcc606 3 _ rfl
               rw [add_field _ _ 3 (by omega)] at hv606_3
               replace hv606_3 := Option.some.inj (hv606_3.symm.trans hx606_3)
               injection hv606_3 with hva_ hvn_ hvc_
               rw [hva_] at ge606_3
               rw [hvc_] at ul606_3
               have HL606_3 := aZ_ (show Kd.V k58 58 _ w.heap.size _ _ ((rd_T38 t595 x8_1).f2) from Kd.V_mk ul606_3 ge606_3)
               clear hva_ hvn_ hvc_ ge606_3 ul606_3
               clear hcc606 hce606
               have HR606_2 := aZ_ hi606_2
               have HC606_2 := aZ_ hl606_2
               clear hi606_2 hl606_2
               have HR606_3 := aZ_ hi606_3
               have HC606_3 := aZ_ hl606_3
               clear hi606_3 hl606_3
               replace p606 := eq_true p606
               replace q606 := eq_true q606
               have p607 : 0 ≤ (x8_1 : Int) := of_decide_eq_true asm_
               have q607 : x8_1 < (t595.length : Int) := of_decide_eq_true asm_
               obtain ⟨ad607, A607_2, c607_2, A607_3, c607_3, e607, hx607_0, hx607_1, hx607_2, hx607_3, hl607_2, hi607_2, hl607_3, hi607_3⟩ := at_T38 (Kd.N_reads' HO_5.out).2.2 x8_1 p607 q607
               obtain rfl : ad599 = ad607 := (by injection e607)
               obtain ⟨ce607, hce607, hMe607, hcc607⟩ := Kd.N_get HO_5.out z38 x8_1 p607 (by first | exact q607 | exact of_decide_eq_true asm_ | (have e_ := (Kd.N_reads' HO_5.out).1; omega))
               obtain ⟨ua607_2, uc607_2, ua607_3, uc607_3, rfl, ul607_2, ge607_2, ul607_3, ge607_3⟩ := k38_openF hMe607
               have hv607_2 := hcc607 2 _ rfl
               rw [add_field _ _ 2 (by omega)] at hv607_2
               replace hv607_2 := Option.some.inj (hv607_2.symm.trans hx607_2)
               injection hv607_2 with hva_ hvn_ hvc_
               rw [hva_] at ge607_2
               rw [hvc_] at ul607_2
               have HL607_2 := aZ_ (show Kd.V k28 28 _ w.heap.size _ _ ((rd_T38 t595 x8_1).f1) from Kd.V_mk ul607_2 ge607_2)
               clear hva_ hvn_ hvc_ ge607_2 ul607_2
               have hv607_3 := hcc607 3 _ rfl
               rw [add_field _ _ 3 (by omega)] at hv607_3
               replace hv607_3 := Option.some.inj (hv607_3.symm.trans hx607_3)
               injection hv607_3 with hva_ hvn_ hvc_
               rw [hva_] at ge607_3
               rw [hvc_] at ul607_3
               have HL607_3 := aZ_ (show Kd.V k58 58 _ w.heap.size _ _ ((rd_T38 t595 x8_1).f2) from Kd.V_mk ul607_3 ge607_3)
               clear hva_ hvn_ hvc_ ge607_3 ul607_3
               clear hcc607 hce607
               have HR607_2 := aZ_ hi607_2
               have HC607_2 := aZ_ hl607_2
               clear hi607_2 hl607_2
               have HR607_3 := aZ_ hi607_3
               have HC607_3 := aZ_ hl607_3
               clear hi607_3 hl607_3
               replace p607 := eq_true p607
               replace q607 := eq_true q607
               have ea_ := Option.some.inj (hx606_2.symm.trans hx607_2)
               injection ea_ with ea_ en_ ec_
               subst ea_
               subst ec_
               clear en_
               have ea_ := Option.some.inj (hx606_3.symm.trans hx607_3)
               injection ea_ with ea_ en_ ec_
               subst ea_
               subst ec_
               clear en_
               refine start_ (n := 19) (S := fun w' => w'.cell? ⟨gb600, 0, none⟩ = some (.string ((rd_T38 t595 t598).f0.f0)) ∧ w'.cell? ⟨gb600, 1, none⟩ = some (.string ((rd_T38 t595 t598).f0.f1)) ∧ w'.cell? (ad599.add ((x8_1).toNat * 4)) = some (.string ((rd_T38 t595 x8_1).f0.f0)) ∧ w'.cell? ⟨(ad599.add ((x8_1).toNat * 4)).block, (ad599.add ((x8_1).toNat * 4)).off + 1, none⟩ = some (.string ((rd_T38 t595 x8_1).f0.f1)) ∧ w'.cell? ⟨(ad599.add ((x8_1).toNat * 4)).block, (ad599.add ((x8_1).toNat * 4)).off + 2, none⟩ = some (.slice A606_2 ((rd_T38 t595 x8_1).f1).length c606_2) ∧ w'.cell? ⟨(ad599.add ((x8_1).toNat * 4)).block, (ad599.add ((x8_1).toNat * 4)).off + 3, none⟩ = some (.slice A606_3 ((rd_T38 t595 x8_1).f2).length c606_3) ∧ w'.cell? (ad599.add ((x8_1).toNat * 4)) = some (.string ((rd_T38 t595 x8_1).f0.f0)) ∧ w'.cell? ⟨(ad599.add ((x8_1).toNat * 4)).block, (ad599.add ((x8_1).toNat * 4)).off + 1, none⟩ = some (.string ((rd_T38 t595 x8_1).f0.f1)) ∧ w'.cell? ⟨(ad599.add ((x8_1).toNat * 4)).block, (ad599.add ((x8_1).toNat * 4)).off + 2, none⟩ = some (.slice A606_2 ((rd_T38 t595 x8_1).f1).length c606_2) ∧ w'.cell? ⟨(ad599.add ((x8_1).toNat * 4)).block, (ad599.add ((x8_1).toNat * 4)).off + 3, none⟩ = some (.slice A606_3 ((rd_T38 t595 x8_1).f2).length c606_3)) (ds := []) #[false, false, false, false, false, false, false, false, false, false, false, false, false, false, false, false, false, false, false] (by kernel_rfl) rfl rfl ⟨(blk_cell BK600.out 0).trans rfl, (blk_cell BK600.out 1).trans rfl, hx606_0, hx606_1, hx606_2, hx606_3, hx607_0, hx607_1, hx607_2, hx607_3⟩ (fun hHeld => ?_); refine with_tabW chancellaw9_AboveBelow.tab16 chancellaw9_AboveBelow.bits16 (fun HT_ HW_ => ?_)
               generalize wr.drew = w36 at HO_5 HO_7 BK600 HR599_2 HR599_3 HB HL606_2 HL606_3 HL607_2 HL607_3 HR606_2 HR606_3 HR607_2 HR607_3 hx606_0 hx606_1 hx606_2 hx606_3 hx607_0 hx607_1 hx607_2 hx607_3 hHeld ⊢
               refine pS_ 0 54 (fa 19 1) HT_ ?_
               refine pS_ 1 55 (fa 19 3) HT_ ?_
               refine pS_ 2 56 (fa 19 7) HT_ ?_
               refine pS_ 3 57 (fa 19 15) HT_ ?_
               refine pS_ 4 58 (fa 19 31) HT_ ?_
               refine tS_ 5 59 (fa 19 63) HT_ HW_ hHeld ?_
               refine tS_ 6 60 (fa 19 127) HT_ HW_ hHeld ?_
               refine pS_ 7 61 (fa 19 255) HT_ ?_
               refine pS_ 8 62 (fa 19 511) HT_ ?_
               refine pS_ 9 63 (fa 19 1023) HT_ ?_
               refine pS_ 10 64 (fa 19 2047) HT_ ?_
               refine pS_ 11 65 (fa 19 4095) HT_ ?_
               refine pS_ 12 66 (fa 19 8191) HT_ ?_
               refine pS_ 13 67 (fa 19 16383) HT_ ?_
               refine tS_ 14 68 (fa 19 32767) HT_ HW_ hHeld ?_
               refine tS_ 15 69 (fa 19 65535) HT_ HW_ hHeld ?_
               refine one_ (i := 16) (N := some 70) #[true, true, true, true, true, true, true, true, true, true, true, true, true, true, true, true, true, false, false] rfl rfl (one_of HT_.out (by kernel_rfl)) (by decide) (fun K hK => ?_)
               refine goes_ Try.func16 (by kernel_rfl) rfl #[.slice (some ad599) t595.length coG, .agg #[.string ((rd_T38 t595 x8_1).f0.f0), .string ((rd_T38 t595 x8_1).f0.f1)], .agg #[.string ((rd_T38 t595 t598).f0.f0), .string ((rd_T38 t595 t598).f0.f1)]] (by rfl) rfl rfl gm_ ?_
               with_reducible refine (above_In.calls _ _ t595 ((rd_T38 t595 x8_1).f0.f0) ((rd_T38 t595 x8_1).f0.f1) ((rd_T38 t595 t598).f0.f0) ((rd_T38 t595 t598).f0.f1) t608 _ ?side1 ?side2 A33.out).mono ?_
               (case side1 => repeat (first | exact (Kd.N_reads' HO_5.out).2.2 | (with_reducible refine Kd.C_alloc ?_ _) | (with_reducible refine Kd.C_drewN ?_ _) | (with_reducible refine Kd.C_drew ?_)))
               (case side2 => exact (Kd.N_reads' HO_5.out).2.1)
               rintro e w37 ⟨rfl, hb⟩
               have HS2_ := (hbc hb (hHeld.2.2.1) :)
               have HS3_ := (hbc hb (hHeld.2.2.2.1) :)
               have HS4_ := (hbc hb (hHeld.2.2.2.2.1) :)
               have HS5_ := (hbc hb (hHeld.2.2.2.2.2.1) :)
               have HS6_ := (hbc hb (hHeld.2.2.2.2.2.2.1) :)
               have HS7_ := (hbc hb (hHeld.2.2.2.2.2.2.2.1) :)
               have HS8_ := (hbc hb (hHeld.2.2.2.2.2.2.2.2.1) :)
               have HS9_ := (hbc hb (hHeld.2.2.2.2.2.2.2.2.2) :)
               refine ⟨_, rfl, ?_⟩
               replace HO_5 := aZ_ (Kd.N_below (kN HO_5) hb)
               replace HO_7 := aZ_ (Kd.R_below (kR HO_7) hb)
               replace HL606_2 := aZ_ (Kd.V_below (kV HL606_2) hb)
               replace HL606_3 := aZ_ (Kd.V_below (kV HL606_3) hb)
               replace HL607_2 := aZ_ (Kd.V_below (kV HL607_2) hb)
               replace HL607_3 := aZ_ (Kd.V_below (kV HL607_3) hb)
               replace BK600 := aZ_ (blk_below (g := gb600) (o := .cells #[.string ((rd_T38 t595 t598).f0.f0), .string ((rd_T38 t595 t598).f0.f1)] 28 (0, 0)) (bk BK600) hb)
               replace HR599_2 := aZ_ (Kd.C_below (kD HR599_2) hb)
               replace HR599_3 := aZ_ (Kd.C_below (kD HR599_3) hb)
               replace HR606_2 := aZ_ (Kd.C_below (kD HR606_2) hb)
               replace HR606_3 := aZ_ (Kd.C_below (kD HR606_3) hb)
               replace HR607_2 := aZ_ (Kd.C_below (kD HR607_2) hb)
               replace HR607_3 := aZ_ (Kd.C_below (kD HR607_3) hb)
               replace HB := aZ_ (below_step (bl1 HB GE600) hb)
               (try clear hb)
               (try clear hb2)
               (try clear hk)
               (try clear hi)
               refine hK.out _ _ ⟨(blk_cell BK600.out 0).trans rfl, (blk_cell BK600.out 1).trans rfl, HS2_, HS3_, HS4_, HS5_, HS6_, HS7_, HS8_, HS9_⟩ (fun hHeld => ?_)
               clear hK K
               refine norm_ (a' := ?_) ?_ ?_
               rotate_left
               ·
                show Act.put _ (some 70) _ = _
                simp only [Act.put, List.setIfInBounds_toArray, List.set_cons_zero, List.set_cons_succ, i64_w, i32_w]
                rfl
               refine pS_ 17 71 (fa 19 262143) HT_ ?_
               refine pS_ 18 72 (fa 19 524287) HT_ ?_
               refine done_ (done_of HT_.out (by kernel_rfl)) ?_
               try go_wp2
               go_ret
               exact ⟨by first | rfl | (simp [errW_none, errW_some] <;> rfl) | (simp [*, errW_none, errW_some] <;> rfl), bl1 HB GE600⟩
              ·
               rw [if_neg c34] at H
               have c34b0 : (x9_2 != t608) = false := by simpa using c34
               (try (have c34b1 : decide (x9_2 = t608) = true := by simpa using c34))
               (try (have c34b2 : (x9_2 == t608) = true := by simpa using c34))
               clear c34
               have H' := aZ_ H
               clear H
               obtain ⟨Ao38, co38, eo38⟩ := Kd.R_slice HO_7.out
               subst eo38
               try go_wp2
               replace HO_5 := aZ_ (Kd.N_drew HO_5.out)
               replace HO_7 := aZ_ (Kd.R_drew HO_7.out)
               replace BK600 := aZ_ (blk_drew BK600.out)
               replace HR599_2 := aZ_ (Kd.C_drew HR599_2.out)
               replace HR599_3 := aZ_ (Kd.C_drew HR599_3.out)
               replace HB := aZ_ (below_drew1 HB.out)
               have p606 : 0 ≤ (x8_1 : Int) := of_decide_eq_true asm_
               have q606 : x8_1 < (t595.length : Int) := of_decide_eq_true asm_
               obtain ⟨ad606, A606_2, c606_2, A606_3, c606_3, e606, hx606_0, hx606_1, hx606_2, hx606_3, hl606_2, hi606_2, hl606_3, hi606_3⟩ := at_T38 (Kd.N_reads' HO_5.out).2.2 x8_1 p606 q606
               obtain rfl : ad599 = ad606 := (by injection e606)
               obtain ⟨ce606, hce606, hMe606, hcc606⟩ := Kd.N_get HO_5.out z38 x8_1 p606 (by first | exact q606 | exact of_decide_eq_true asm_ | (have e_ := (Kd.N_reads' HO_5.out).1; omega))
               obtain ⟨ua606_2, uc606_2, ua606_3, uc606_3, rfl, ul606_2, ge606_2, ul606_3, ge606_3⟩ := k38_openF hMe606
               have hv606_2 := hcc606 2 _ rfl
               rw [add_field _ _ 2 (by omega)] at hv606_2
               replace hv606_2 := Option.some.inj (hv606_2.symm.trans hx606_2)
               injection hv606_2 with hva_ hvn_ hvc_
               rw [hva_] at ge606_2
               rw [hvc_] at ul606_2
               have HL606_2 := aZ_ (show Kd.V k28 28 _ w.heap.size _ _ ((rd_T38 t595 x8_1).f1) from Kd.V_mk ul606_2 ge606_2)
               clear hva_ hvn_ hvc_ ge606_2 ul606_2
               have hv606_3 := hcc606 3 _ rfl
               rw [add_field _ _ 3 (by omega)] at hv606_3
               replace hv606_3 := Option.some.inj (hv606_3.symm.trans hx606_3)
               injection hv606_3 with hva_ hvn_ hvc_
               rw [hva_] at ge606_3
               rw [hvc_] at ul606_3
               have HL606_3 := aZ_ (show Kd.V k58 58 _ w.heap.size _ _ ((rd_T38 t595 x8_1).f2) from Kd.V_mk ul606_3 ge606_3)
               clear hva_ hvn_ hvc_ ge606_3 ul606_3
               clear hcc606 hce606
               have HR606_2 := aZ_ hi606_2
               have HC606_2 := aZ_ hl606_2
               clear hi606_2 hl606_2
               have HR606_3 := aZ_ hi606_3
               have HC606_3 := aZ_ hl606_3
               clear hi606_3 hl606_3
               replace p606 := eq_true p606
               replace q606 := eq_true q606
               have p607 : 0 ≤ (x8_1 : Int) := of_decide_eq_true asm_
               have q607 : x8_1 < (t595.length : Int) := of_decide_eq_true asm_
               obtain ⟨ad607, A607_2, c607_2, A607_3, c607_3, e607, hx607_0, hx607_1, hx607_2, hx607_3, hl607_2, hi607_2, hl607_3, hi607_3⟩ := at_T38 (Kd.N_reads' HO_5.out).2.2 x8_1 p607 q607
               obtain rfl : ad599 = ad607 := (by injection e607)
               obtain ⟨ce607, hce607, hMe607, hcc607⟩ := Kd.N_get HO_5.out z38 x8_1 p607 (by first | exact q607 | exact of_decide_eq_true asm_ | (have e_ := (Kd.N_reads' HO_5.out).1; omega))
               obtain ⟨ua607_2, uc607_2, ua607_3, uc607_3, rfl, ul607_2, ge607_2, ul607_3, ge607_3⟩ := k38_openF hMe607
               have hv607_2 := hcc607 2 _ rfl
               rw [add_field _ _ 2 (by omega)] at hv607_2
               replace hv607_2 := Option.some.inj (hv607_2.symm.trans hx607_2)
               injection hv607_2 with hva_ hvn_ hvc_
               rw [hva_] at ge607_2
               rw [hvc_] at ul607_2
               have HL607_2 := aZ_ (show Kd.V k28 28 _ w.heap.size _ _ ((rd_T38 t595 x8_1).f1) from Kd.V_mk ul607_2 ge607_2)
               clear hva_ hvn_ hvc_ ge607_2 ul607_2
               have hv607_3 := hcc607 3 _ rfl
               rw [add_field _ _ 3 (by omega)] at hv607_3
               replace hv607_3 := Option.some.inj (hv607_3.symm.trans hx607_3)
               injection hv607_3 with hva_ hvn_ hvc_
               rw [hva_] at ge607_3
               rw [hvc_] at ul607_3
               have HL607_3 := aZ_ (show Kd.V k58 58 _ w.heap.size _ _ ((rd_T38 t595 x8_1).f2) from Kd.V_mk ul607_3 ge607_3)
               clear hva_ hvn_ hvc_ ge607_3 ul607_3
               clear hcc607 hce607
               have HR607_2 := aZ_ hi607_2
               have HC607_2 := aZ_ hl607_2
               clear hi607_2 hl607_2
               have HR607_3 := aZ_ hi607_3
               have HC607_3 := aZ_ hl607_3
               clear hi607_3 hl607_3
               replace p607 := eq_true p607
               replace q607 := eq_true q607
               have ea_ := Option.some.inj (hx606_2.symm.trans hx607_2)
               injection ea_ with ea_ en_ ec_
               subst ea_
               subst ec_
               clear en_
               have ea_ := Option.some.inj (hx606_3.symm.trans hx607_3)
               injection ea_ with ea_ en_ ec_
               subst ea_
               subst ec_
               clear en_
               refine start_ (n := 19) (S := fun w' => w'.cell? ⟨gb600, 0, none⟩ = some (.string ((rd_T38 t595 t598).f0.f0)) ∧ w'.cell? ⟨gb600, 1, none⟩ = some (.string ((rd_T38 t595 t598).f0.f1)) ∧ w'.cell? (ad599.add ((x8_1).toNat * 4)) = some (.string ((rd_T38 t595 x8_1).f0.f0)) ∧ w'.cell? ⟨(ad599.add ((x8_1).toNat * 4)).block, (ad599.add ((x8_1).toNat * 4)).off + 1, none⟩ = some (.string ((rd_T38 t595 x8_1).f0.f1)) ∧ w'.cell? ⟨(ad599.add ((x8_1).toNat * 4)).block, (ad599.add ((x8_1).toNat * 4)).off + 2, none⟩ = some (.slice A606_2 ((rd_T38 t595 x8_1).f1).length c606_2) ∧ w'.cell? ⟨(ad599.add ((x8_1).toNat * 4)).block, (ad599.add ((x8_1).toNat * 4)).off + 3, none⟩ = some (.slice A606_3 ((rd_T38 t595 x8_1).f2).length c606_3) ∧ w'.cell? (ad599.add ((x8_1).toNat * 4)) = some (.string ((rd_T38 t595 x8_1).f0.f0)) ∧ w'.cell? ⟨(ad599.add ((x8_1).toNat * 4)).block, (ad599.add ((x8_1).toNat * 4)).off + 1, none⟩ = some (.string ((rd_T38 t595 x8_1).f0.f1)) ∧ w'.cell? ⟨(ad599.add ((x8_1).toNat * 4)).block, (ad599.add ((x8_1).toNat * 4)).off + 2, none⟩ = some (.slice A606_2 ((rd_T38 t595 x8_1).f1).length c606_2) ∧ w'.cell? ⟨(ad599.add ((x8_1).toNat * 4)).block, (ad599.add ((x8_1).toNat * 4)).off + 3, none⟩ = some (.slice A606_3 ((rd_T38 t595 x8_1).f2).length c606_3)) (ds := []) #[false, false, false, false, false, false, false, false, false, false, false, false, false, false, false, false, false, false, false] (by kernel_rfl) rfl rfl ⟨(blk_cell BK600.out 0).trans rfl, (blk_cell BK600.out 1).trans rfl, hx606_0, hx606_1, hx606_2, hx606_3, hx607_0, hx607_1, hx607_2, hx607_3⟩ (fun hHeld => ?_); refine with_tabW chancellaw9_AboveBelow.tab16 chancellaw9_AboveBelow.bits16 (fun HT_ HW_ => ?_)
               generalize wr.drew = w39 at HO_5 HO_7 BK600 HR599_2 HR599_3 HB HL606_2 HL606_3 HL607_2 HL607_3 HR606_2 HR606_3 HR607_2 HR607_3 hx606_0 hx606_1 hx606_2 hx606_3 hx607_0 hx607_1 hx607_2 hx607_3 hHeld ⊢
               refine pS_ 0 54 (fa 19 1) HT_ ?_
               refine pS_ 1 55 (fa 19 3) HT_ ?_
               refine pS_ 2 56 (fa 19 7) HT_ ?_
               refine pS_ 3 57 (fa 19 15) HT_ ?_
               refine pS_ 4 58 (fa 19 31) HT_ ?_
               refine tS_ 5 59 (fa 19 63) HT_ HW_ hHeld ?_
               refine tS_ 6 60 (fa 19 127) HT_ HW_ hHeld ?_
               refine pS_ 7 61 (fa 19 255) HT_ ?_
               refine pS_ 8 62 (fa 19 511) HT_ ?_
               refine pS_ 9 63 (fa 19 1023) HT_ ?_
               refine pS_ 10 64 (fa 19 2047) HT_ ?_
               refine pS_ 11 65 (fa 19 4095) HT_ ?_
               refine pS_ 12 66 (fa 19 8191) HT_ ?_
               refine pS_ 13 67 (fa 19 16383) HT_ ?_
               refine tS_ 14 68 (fa 19 32767) HT_ HW_ hHeld ?_
               refine tS_ 15 69 (fa 19 65535) HT_ HW_ hHeld ?_
               refine one_ (i := 16) (N := some 70) #[true, true, true, true, true, true, true, true, true, true, true, true, true, true, true, true, true, false, false] rfl rfl (one_of HT_.out (by kernel_rfl)) (by decide) (fun K hK => ?_)
               refine goes_ Try.func16 (by kernel_rfl) rfl #[.slice (some ad599) t595.length coG, .agg #[.string ((rd_T38 t595 x8_1).f0.f0), .string ((rd_T38 t595 x8_1).f0.f1)], .agg #[.string ((rd_T38 t595 t598).f0.f0), .string ((rd_T38 t595 t598).f0.f1)]] (by rfl) rfl rfl gm_ ?_
               with_reducible refine (above_In.calls _ _ t595 ((rd_T38 t595 x8_1).f0.f0) ((rd_T38 t595 x8_1).f0.f1) ((rd_T38 t595 t598).f0.f0) ((rd_T38 t595 t598).f0.f1) t608 _ ?side1 ?side2 A33.out).mono ?_
               (case side1 => repeat (first | exact (Kd.N_reads' HO_5.out).2.2 | (with_reducible refine Kd.C_alloc ?_ _) | (with_reducible refine Kd.C_drewN ?_ _) | (with_reducible refine Kd.C_drew ?_)))
               (case side2 => exact (Kd.N_reads' HO_5.out).2.1)
               rintro e w40 ⟨rfl, hb⟩
               have HS2_ := (hbc hb (hHeld.2.2.1) :)
               have HS3_ := (hbc hb (hHeld.2.2.2.1) :)
               have HS4_ := (hbc hb (hHeld.2.2.2.2.1) :)
               have HS5_ := (hbc hb (hHeld.2.2.2.2.2.1) :)
               have HS6_ := (hbc hb (hHeld.2.2.2.2.2.2.1) :)
               have HS7_ := (hbc hb (hHeld.2.2.2.2.2.2.2.1) :)
               have HS8_ := (hbc hb (hHeld.2.2.2.2.2.2.2.2.1) :)
               have HS9_ := (hbc hb (hHeld.2.2.2.2.2.2.2.2.2) :)
               refine ⟨_, rfl, ?_⟩
               replace HO_5 := aZ_ (Kd.N_below (kN HO_5) hb)
               replace HO_7 := aZ_ (Kd.R_below (kR HO_7) hb)
               replace HL606_2 := aZ_ (Kd.V_below (kV HL606_2) hb)
               replace HL606_3 := aZ_ (Kd.V_below (kV HL606_3) hb)
               replace HL607_2 := aZ_ (Kd.V_below (kV HL607_2) hb)
               replace HL607_3 := aZ_ (Kd.V_below (kV HL607_3) hb)
               replace BK600 := aZ_ (blk_below (g := gb600) (o := .cells #[.string ((rd_T38 t595 t598).f0.f0), .string ((rd_T38 t595 t598).f0.f1)] 28 (0, 0)) (bk BK600) hb)
               replace HR599_2 := aZ_ (Kd.C_below (kD HR599_2) hb)
               replace HR599_3 := aZ_ (Kd.C_below (kD HR599_3) hb)
               replace HR606_2 := aZ_ (Kd.C_below (kD HR606_2) hb)
               replace HR606_3 := aZ_ (Kd.C_below (kD HR606_3) hb)
               replace HR607_2 := aZ_ (Kd.C_below (kD HR607_2) hb)
               replace HR607_3 := aZ_ (Kd.C_below (kD HR607_3) hb)
               replace HB := aZ_ (below_step (bl1 HB GE600) hb)
               (try clear hb)
               (try clear hb2)
               (try clear hk)
               (try clear hi)
               refine hK.out _ _ ⟨(blk_cell BK600.out 0).trans rfl, (blk_cell BK600.out 1).trans rfl, HS2_, HS3_, HS4_, HS5_, HS6_, HS7_, HS8_, HS9_⟩ (fun hHeld => ?_)
               clear hK K
               refine norm_ (a' := ?_) ?_ ?_
               rotate_left
               ·
                show Act.put _ (some 70) _ = _
                simp only [Act.put, List.setIfInBounds_toArray, List.set_cons_zero, List.set_cons_succ, i64_w, i32_w]
                rfl
               refine pS_ 17 71 (fa 19 262143) HT_ ?_
               refine pS_ 18 72 (fa 19 524287) HT_ ?_
               refine done_ (done_of HT_.out (by kernel_rfl)) ?_
               try go_wp2
               go_roundg k2
               case measure => have := HK1.out; have := HK2.out; omega
               case rel => exact ⟨(wrap64 (x8_1 + 1)), rf_, H', ⟨by have := HK1.out; have := HK2.out; omega⟩, ⟨kN HO_5⟩, ⟨kR HO_7⟩, ⟨bk BK600⟩, ⟨kD HR599_2⟩, ⟨kD HR599_3⟩, ⟨bl1 HB GE600⟩⟩
             ·
              rw [if_neg c32] at H
              have c32b0 : (!((((rd_T38 t595 x8_1).f0.f0).toList) == ((rd_T38 t595 t598).f0.f0).toList) || (!((((rd_T38 t595 x8_1).f0.f1).toList) == ((rd_T38 t595 t598).f0.f1).toList))) = false := by simpa using c32
              clear c32
              by_cases c41 : (x9_2 != false) = true
              ·
               rw [if_pos c41] at H
               have c41b0 : (x9_2 != false) = true := c41
               (try (have c41b1 : decide (x9_2 = false) = false := by simpa using c41))
               (try (have c41b2 : (x9_2 == false) = false := by simpa using c41))
               (try (have c41b3 : ¬ (x9_2 = false) := by simpa using c41))
               clear c41
               obtain rfl := Option.some.inj H
               obtain ⟨Ao42, co42, eo42⟩ := Kd.R_slice HO_7.out
               subst eo42
               try go_wp2
               replace HO_5 := aZ_ (Kd.N_drew HO_5.out)
               replace HO_7 := aZ_ (Kd.R_drew HO_7.out)
               replace BK600 := aZ_ (blk_drew BK600.out)
               replace HR599_2 := aZ_ (Kd.C_drew HR599_2.out)
               replace HR599_3 := aZ_ (Kd.C_drew HR599_3.out)
               replace HB := aZ_ (below_drew1 HB.out)
               have p606 : 0 ≤ (x8_1 : Int) := of_decide_eq_true asm_
               have q606 : x8_1 < (t595.length : Int) := of_decide_eq_true asm_
               obtain ⟨ad606, A606_2, c606_2, A606_3, c606_3, e606, hx606_0, hx606_1, hx606_2, hx606_3, hl606_2, hi606_2, hl606_3, hi606_3⟩ := at_T38 (Kd.N_reads' HO_5.out).2.2 x8_1 p606 q606
               obtain rfl : ad599 = ad606 := (by injection e606)
               obtain ⟨ce606, hce606, hMe606, hcc606⟩ := Kd.N_get HO_5.out z38 x8_1 p606 (by first | exact q606 | exact of_decide_eq_true asm_ | (have e_ := (Kd.N_reads' HO_5.out).1; omega))
               obtain ⟨ua606_2, uc606_2, ua606_3, uc606_3, rfl, ul606_2, ge606_2, ul606_3, ge606_3⟩ := k38_openF hMe606
               have hv606_2 := hcc606 2 _ rfl
               rw [add_field _ _ 2 (by omega)] at hv606_2
               replace hv606_2 := Option.some.inj (hv606_2.symm.trans hx606_2)
               injection hv606_2 with hva_ hvn_ hvc_
               rw [hva_] at ge606_2
               rw [hvc_] at ul606_2
               have HL606_2 := aZ_ (show Kd.V k28 28 _ w.heap.size _ _ ((rd_T38 t595 x8_1).f1) from Kd.V_mk ul606_2 ge606_2)
               clear hva_ hvn_ hvc_ ge606_2 ul606_2
               have hv606_3 := hcc606 3 _ rfl
               rw [add_field _ _ 3 (by omega)] at hv606_3
               replace hv606_3 := Option.some.inj (hv606_3.symm.trans hx606_3)
               injection hv606_3 with hva_ hvn_ hvc_
               rw [hva_] at ge606_3
               rw [hvc_] at ul606_3
               have HL606_3 := aZ_ (show Kd.V k58 58 _ w.heap.size _ _ ((rd_T38 t595 x8_1).f2) from Kd.V_mk ul606_3 ge606_3)
               clear hva_ hvn_ hvc_ ge606_3 ul606_3
               clear hcc606 hce606
               have HR606_2 := aZ_ hi606_2
               have HC606_2 := aZ_ hl606_2
               clear hi606_2 hl606_2
               have HR606_3 := aZ_ hi606_3
               have HC606_3 := aZ_ hl606_3
               clear hi606_3 hl606_3
               replace p606 := eq_true p606
               replace q606 := eq_true q606
               refine start_ (n := 19) (S := fun w' => w'.cell? ⟨gb600, 0, none⟩ = some (.string ((rd_T38 t595 t598).f0.f0)) ∧ w'.cell? ⟨gb600, 1, none⟩ = some (.string ((rd_T38 t595 t598).f0.f1)) ∧ w'.cell? (ad599.add ((x8_1).toNat * 4)) = some (.string ((rd_T38 t595 x8_1).f0.f0)) ∧ w'.cell? ⟨(ad599.add ((x8_1).toNat * 4)).block, (ad599.add ((x8_1).toNat * 4)).off + 1, none⟩ = some (.string ((rd_T38 t595 x8_1).f0.f1)) ∧ w'.cell? ⟨(ad599.add ((x8_1).toNat * 4)).block, (ad599.add ((x8_1).toNat * 4)).off + 2, none⟩ = some (.slice A606_2 ((rd_T38 t595 x8_1).f1).length c606_2) ∧ w'.cell? ⟨(ad599.add ((x8_1).toNat * 4)).block, (ad599.add ((x8_1).toNat * 4)).off + 3, none⟩ = some (.slice A606_3 ((rd_T38 t595 x8_1).f2).length c606_3)) (ds := []) #[false, false, false, false, false, false, false, false, false, false, false, false, false, false, false, false, false, false, false] (by kernel_rfl) rfl rfl ⟨(blk_cell BK600.out 0).trans rfl, (blk_cell BK600.out 1).trans rfl, hx606_0, hx606_1, hx606_2, hx606_3⟩ (fun hHeld => ?_); refine with_tabW chancellaw9_AboveBelow.tab16 chancellaw9_AboveBelow.bits16 (fun HT_ HW_ => ?_)
               generalize wr.drew = w43 at HO_5 HO_7 BK600 HR599_2 HR599_3 HB HL606_2 HL606_3 HR606_2 HR606_3 hx606_0 hx606_1 hx606_2 hx606_3 hHeld ⊢
               refine pS_ 0 54 (fa 19 1) HT_ ?_
               refine pS_ 1 55 (fa 19 3) HT_ ?_
               refine pS_ 2 56 (fa 19 7) HT_ ?_
               refine pS_ 3 57 (fa 19 15) HT_ ?_
               refine pS_ 4 58 (fa 19 31) HT_ ?_
               refine tS_ 5 59 (fa 19 63) HT_ HW_ hHeld ?_
               refine tS_ 6 60 (fa 19 127) HT_ HW_ hHeld ?_
               refine pS_ 7 61 (fa 19 255) HT_ ?_
               refine pS_ 8 62 (fa 19 511) HT_ ?_
               refine pU_ 9 63 (fa 19 1023) HT_ ?_
               refine pU_ 10 64 (fa 19 2047) HT_ ?_
               refine pU_ 11 65 (fa 19 4095) HT_ ?_
               refine pU_ 12 66 (fa 19 8191) HT_ ?_
               refine pU_ 13 67 (fa 19 16383) HT_ ?_
               refine pU_ 14 68 (fa 19 32767) HT_ ?_
               refine pU_ 15 69 (fa 19 65535) HT_ ?_
               refine pU_ 16 70 (fa 19 131071) HT_ ?_
               refine pS_ 17 71 (fa 19 262143) HT_ ?_
               refine pS_ 18 72 (fa 19 524287) HT_ ?_
               refine done_ (done_of HT_.out (by kernel_rfl)) ?_
               try go_wp2
               go_ret
               exact ⟨by first | rfl | (simp [errW_none, errW_some] <;> rfl) | (simp [*, errW_none, errW_some] <;> rfl), bl1 HB GE600⟩
              ·
               rw [if_neg c41] at H
               have c41b0 : (x9_2 != false) = false := by simpa using c41
               (try (have c41b1 : decide (x9_2 = false) = true := by simpa using c41))
               (try (have c41b2 : (x9_2 == false) = true := by simpa using c41))
               clear c41
               have H' := aZ_ H
               clear H
               obtain ⟨Ao44, co44, eo44⟩ := Kd.R_slice HO_7.out
               subst eo44
               try go_wp2
               replace HO_5 := aZ_ (Kd.N_drew HO_5.out)
               replace HO_7 := aZ_ (Kd.R_drew HO_7.out)
               replace BK600 := aZ_ (blk_drew BK600.out)
               replace HR599_2 := aZ_ (Kd.C_drew HR599_2.out)
               replace HR599_3 := aZ_ (Kd.C_drew HR599_3.out)
               replace HB := aZ_ (below_drew1 HB.out)
               have p606 : 0 ≤ (x8_1 : Int) := of_decide_eq_true asm_
               have q606 : x8_1 < (t595.length : Int) := of_decide_eq_true asm_
               obtain ⟨ad606, A606_2, c606_2, A606_3, c606_3, e606, hx606_0, hx606_1, hx606_2, hx606_3, hl606_2, hi606_2, hl606_3, hi606_3⟩ := at_T38 (Kd.N_reads' HO_5.out).2.2 x8_1 p606 q606
               obtain rfl : ad599 = ad606 := (by injection e606)
               obtain ⟨ce606, hce606, hMe606, hcc606⟩ := Kd.N_get HO_5.out z38 x8_1 p606 (by first | exact q606 | exact of_decide_eq_true asm_ | (have e_ := (Kd.N_reads' HO_5.out).1; omega))
               obtain ⟨ua606_2, uc606_2, ua606_3, uc606_3, rfl, ul606_2, ge606_2, ul606_3, ge606_3⟩ := k38_openF hMe606
               have hv606_2 := hcc606 2 _ rfl
               rw [add_field _ _ 2 (by omega)] at hv606_2
               replace hv606_2 := Option.some.inj (hv606_2.symm.trans hx606_2)
               injection hv606_2 with hva_ hvn_ hvc_
               rw [hva_] at ge606_2
               rw [hvc_] at ul606_2
               have HL606_2 := aZ_ (show Kd.V k28 28 _ w.heap.size _ _ ((rd_T38 t595 x8_1).f1) from Kd.V_mk ul606_2 ge606_2)
               clear hva_ hvn_ hvc_ ge606_2 ul606_2
               have hv606_3 := hcc606 3 _ rfl
               rw [add_field _ _ 3 (by omega)] at hv606_3
               replace hv606_3 := Option.some.inj (hv606_3.symm.trans hx606_3)
               injection hv606_3 with hva_ hvn_ hvc_
               rw [hva_] at ge606_3
               rw [hvc_] at ul606_3
               have HL606_3 := aZ_ (show Kd.V k58 58 _ w.heap.size _ _ ((rd_T38 t595 x8_1).f2) from Kd.V_mk ul606_3 ge606_3)
               clear hva_ hvn_ hvc_ ge606_3 ul606_3
               clear hcc606 hce606
               have HR606_2 := aZ_ hi606_2
               have HC606_2 := aZ_ hl606_2
               clear hi606_2 hl606_2
               have HR606_3 := aZ_ hi606_3
               have HC606_3 := aZ_ hl606_3
               clear hi606_3 hl606_3
               replace p606 := eq_true p606
               replace q606 := eq_true q606
               refine start_ (n := 19) (S := fun w' => w'.cell? ⟨gb600, 0, none⟩ = some (.string ((rd_T38 t595 t598).f0.f0)) ∧ w'.cell? ⟨gb600, 1, none⟩ = some (.string ((rd_T38 t595 t598).f0.f1)) ∧ w'.cell? (ad599.add ((x8_1).toNat * 4)) = some (.string ((rd_T38 t595 x8_1).f0.f0)) ∧ w'.cell? ⟨(ad599.add ((x8_1).toNat * 4)).block, (ad599.add ((x8_1).toNat * 4)).off + 1, none⟩ = some (.string ((rd_T38 t595 x8_1).f0.f1)) ∧ w'.cell? ⟨(ad599.add ((x8_1).toNat * 4)).block, (ad599.add ((x8_1).toNat * 4)).off + 2, none⟩ = some (.slice A606_2 ((rd_T38 t595 x8_1).f1).length c606_2) ∧ w'.cell? ⟨(ad599.add ((x8_1).toNat * 4)).block, (ad599.add ((x8_1).toNat * 4)).off + 3, none⟩ = some (.slice A606_3 ((rd_T38 t595 x8_1).f2).length c606_3)) (ds := []) #[false, false, false, false, false, false, false, false, false, false, false, false, false, false, false, false, false, false, false] (by kernel_rfl) rfl rfl ⟨(blk_cell BK600.out 0).trans rfl, (blk_cell BK600.out 1).trans rfl, hx606_0, hx606_1, hx606_2, hx606_3⟩ (fun hHeld => ?_); refine with_tabW chancellaw9_AboveBelow.tab16 chancellaw9_AboveBelow.bits16 (fun HT_ HW_ => ?_)
               generalize wr.drew = w45 at HO_5 HO_7 BK600 HR599_2 HR599_3 HB HL606_2 HL606_3 HR606_2 HR606_3 hx606_0 hx606_1 hx606_2 hx606_3 hHeld ⊢
               refine pS_ 0 54 (fa 19 1) HT_ ?_
               refine pS_ 1 55 (fa 19 3) HT_ ?_
               refine pS_ 2 56 (fa 19 7) HT_ ?_
               refine pS_ 3 57 (fa 19 15) HT_ ?_
               refine pS_ 4 58 (fa 19 31) HT_ ?_
               refine tS_ 5 59 (fa 19 63) HT_ HW_ hHeld ?_
               refine tS_ 6 60 (fa 19 127) HT_ HW_ hHeld ?_
               refine pS_ 7 61 (fa 19 255) HT_ ?_
               refine pS_ 8 62 (fa 19 511) HT_ ?_
               refine pU_ 9 63 (fa 19 1023) HT_ ?_
               refine pU_ 10 64 (fa 19 2047) HT_ ?_
               refine pU_ 11 65 (fa 19 4095) HT_ ?_
               refine pU_ 12 66 (fa 19 8191) HT_ ?_
               refine pU_ 13 67 (fa 19 16383) HT_ ?_
               refine pU_ 14 68 (fa 19 32767) HT_ ?_
               refine pU_ 15 69 (fa 19 65535) HT_ ?_
               refine pU_ 16 70 (fa 19 131071) HT_ ?_
               refine pS_ 17 71 (fa 19 262143) HT_ ?_
               refine pS_ 18 72 (fa 19 524287) HT_ ?_
               refine done_ (done_of HT_.out (by kernel_rfl)) ?_
               try go_wp2
               go_roundg k2
               case measure => have := HK1.out; have := HK2.out; omega
               case rel => exact ⟨(wrap64 (x8_1 + 1)), rf_, H', ⟨by have := HK1.out; have := HK2.out; omega⟩, ⟨kN HO_5⟩, ⟨kR HO_7⟩, ⟨bk BK600⟩, ⟨kD HR599_2⟩, ⟨kD HR599_3⟩, ⟨bl1 HB GE600⟩⟩
            ·
             rw [if_neg c31] at H
             exact absurd H (by simp)
           ·
            rw [if_neg c30] at H
            exact absurd H (by simp)
       ·
        rw [if_neg c20] at H
        have c20b0 : decide (x8_1 < (t595.length : Int)) = false := decide_eq_false c20
        clear c20
        obtain rfl := Option.some.inj H
        go_wp2
        go_ret
        exact ⟨by first | rfl | (simp [errW_none, errW_some] <;> rfl) | (simp [*, errW_none, errW_some] <;> rfl), bl1 HB GE600⟩
    ·
     rw [if_neg c12] at H
     exact absurd H (by simp)
   ·
    rw [if_neg c11] at H
    exact absurd H (by simp)
 ·
  exact absurd trivial c4
end Go.Proofs.Ytelibndkkokadaa.GB
