-- Written by wip/tools/gprint.py over the kit's printer.
import Derived.Test.YtelibndkkokadaaGB0
import Derived.Test.YtelibndkkokadaaJk
import Derived.Test.YtelibndkkokadaaJc
import Derived.Test.YtelibndkkokadaaJg
import Derived.Test.YtelibndkkokadaaJe
import Derived.Test.YtelibndkkokadaaJh
import Derived.Test.YtelibndkkokadaaGB15
import Derived.Test.YtelibndkkokadaaGB17
import Derived.Test.YtelibndkkokadaaSqz
namespace Go.Proofs.Ytelibndkkokadaa.GB
open Go.RowKit Go.Proofs.YtelibndkkokadaaW.PrintWords Go.Proofs.YtelibndkkokadaaW.PrintLast Go.Proofs.Ytelibndkkokadaa.HandV Go.Proofs.YtelibndkkokadaaW.PrintMore
attribute [local go_sem] max2_int min2_int max_two min_two max_three min_three max_four min_four   -- for this text's walks alone
set_option linter.unusedVariables false
set_option linter.unusedSimpArgs false

/-! ### chancellaw9_AboveMore: function 5 -/
mutual
def chancellaw9_AboveMore.l0 : Nat → Int → List (S38) → List (S38) → Int → ByteArray → ByteArray → List (S28) → List (S58) → Option (Bool)
 | 0, _, _, _, _, _, _, _, _ => none
 | k + 1, x2, x7, x10, x11, x570000, x570001, x570002, x570003 => if x11 < (x7.length : Int) then (if 0 ≤ x11 then ((above_Above.f x7 ((rd_T38 x7 x11).f0.f0) ((rd_T38 x7 x11).f0.f1)).bind fun t588 => (chancellaw9_AboveMore.l1 k x2 x7 x10 x11 t588 0 x570000 x570001 x570002 x570003)) else (none)) else ((chancellaw9_pick.f k x7 x2).bind fun bt584 => ((above_In.f x10 x570000 x570001 bt584.1 bt584.2).bind fun t586 => (some t586)))
def chancellaw9_AboveMore.l1 : Nat → Int → List (S38) → List (S38) → Int → List (S28) → Int → ByteArray → ByteArray → List (S28) → List (S58) → Option (Bool)
 | 0, _, _, _, _, _, _, _, _, _, _ => none
 | k + 1, x2, x7, x10, x11, x12, x13, x570000, x570001, x570002, x570003 => if x13 < (x12.length : Int) then (if 0 ≤ x11 then (if x11 < (x7.length : Int) then (if 0 ≤ x13 then ((above_In.f x10 ((rd_T38 x7 x11).f0.f0) ((rd_T38 x7 x11).f0.f1) ((rd_T28 x12 x13).f0) ((rd_T28 x12 x13).f1)).bind fun t593 => (if t593 = true then (chancellaw9_AboveMore.l1 k x2 x7 x10 x11 x12 (wrap64 (x13 + 1)) x570000 x570001 x570002 x570003) else (some false))) else (none)) else (none)) else (none)) else (chancellaw9_AboveMore.l0 k x2 x7 x10 (wrap64 (x11 + 1)) x570000 x570001 x570002 x570003)
end
def chancellaw9_AboveMore.g (k : Nat) (t564 : List (S38)) (a1 : Int) (a2 : Int) : Option (Bool) := (if (t564.length : Int) = 0 then (some true) else ((chancellaw9_within.f a1 (t564.length : Int)).bind fun t567 => (if 0 ≤ t567 then (if t567 < (t564.length : Int) then ((some (([] : List (S28)) : List (S28))).bind fun y570 => (if y570.length + ((rd_T38 t564 t567).f1).length < 4398046511104 then ((some (y570 ++ ((rd_T38 t564 t567).f1) : List (S28))).bind fun y573 => ((chancellaw9_pick.f k t564 a2).bind fun bt576 => (if y573.length < 4398046511104 then ((some (y573 ++ [(⟨bt576.1, bt576.2⟩ : S28)] : List (S28))).bind fun y578 => ((chancelref8_Put.f k t564 ((rd_T38 t564 t567).f0.f0) ((rd_T38 t564 t567).f0.f1) y578 ((rd_T38 t564 t567).f2)).bind fun t581 => (chancellaw9_AboveMore.l0 k a2 t564 t581 0 ((rd_T38 t564 t567).f0.f0) ((rd_T38 t564 t567).f0.f1) y578 ((rd_T38 t564 t567).f2)))) else (none)))) else (none))) else (none)) else (none))))
theorem chancellaw9_AboveMore.mono_l : ∀ k, (∀ y0 y1 y2 y3 y4 y5 y6 y7, LeO (chancellaw9_AboveMore.l0 k y0 y1 y2 y3 y4 y5 y6 y7) (chancellaw9_AboveMore.l0 (k + 1) y0 y1 y2 y3 y4 y5 y6 y7)) ∧ (∀ y0 y1 y2 y3 y4 y5 y6 y7 y8 y9, LeO (chancellaw9_AboveMore.l1 k y0 y1 y2 y3 y4 y5 y6 y7 y8 y9) (chancellaw9_AboveMore.l1 (k + 1) y0 y1 y2 y3 y4 y5 y6 y7 y8 y9))
 | 0 => ⟨fun _ _ _ _ _ _ _ _ r h => by simp [chancellaw9_AboveMore.l0] at h, fun _ _ _ _ _ _ _ _ _ _ r h => by simp [chancellaw9_AboveMore.l1] at h⟩
 | k + 1 => by
  obtain ⟨ih0, ih1⟩ := chancellaw9_AboveMore.mono_l k
  refine ⟨?_, ?_⟩
  ·
   intro y0 y1 y2 y3 y4 y5 y6 y7
   unfold chancellaw9_AboveMore.l0
   repeat' first
   | (with_reducible exact ih0 _ _ _ _ _ _ _ _)
   | (with_reducible exact ih1 _ _ _ _ _ _ _ _ _ _)
   | (with_reducible exact chancellaw9_pick.mono _ _ _)
   | (with_reducible exact chancelref8_Put.mono _ _ _ _ _ _)
   | (with_reducible exact LeO.refl _)
   | (with_reducible exact LeO.none _)
   | (with_reducible refine LeO.ite ?_ ?_)
   | (with_reducible refine LeO.bind ?_ (fun _ => ?_))
   | exact ih0 _ _ _ _ _ _ _ _
   | exact ih1 _ _ _ _ _ _ _ _ _ _
   | exact chancellaw9_pick.mono _ _ _
   | exact chancelref8_Put.mono _ _ _ _ _ _
   | exact LeO.none _
   | refine LeO.ite ?_ ?_
   | refine LeO.bind ?_ (fun _ => ?_)
  ·
   intro y0 y1 y2 y3 y4 y5 y6 y7 y8 y9
   unfold chancellaw9_AboveMore.l1
   repeat' first
   | (with_reducible exact ih0 _ _ _ _ _ _ _ _)
   | (with_reducible exact ih1 _ _ _ _ _ _ _ _ _ _)
   | (with_reducible exact chancellaw9_pick.mono _ _ _)
   | (with_reducible exact chancelref8_Put.mono _ _ _ _ _ _)
   | (with_reducible exact LeO.refl _)
   | (with_reducible exact LeO.none _)
   | (with_reducible refine LeO.ite ?_ ?_)
   | (with_reducible refine LeO.bind ?_ (fun _ => ?_))
   | exact ih0 _ _ _ _ _ _ _ _
   | exact ih1 _ _ _ _ _ _ _ _ _ _
   | exact chancellaw9_pick.mono _ _ _
   | exact chancelref8_Put.mono _ _ _ _ _ _
   | exact LeO.none _
   | refine LeO.ite ?_ ?_
   | refine LeO.bind ?_ (fun _ => ?_)
def chancellaw9_AboveMore.T17 : Bool × List (List Nat × List Nat) := (true, [([], []), ([], []), ([], []), ([1, 2], [1, 2]), ([3], [3]), ([4], [4]), ([], []), ([], []), ([6, 7], [6, 7]), ([8], [8]), ([0, 5, 9], [0, 5, 9]), ([10], [10])])
def chancellaw9_AboveMore.B17 : List Nat := [0, 0, 0, 6, 14, 30, 0, 0, 192, 448, 1023, 2047]
theorem chancellaw9_AboveMore.tab17 : rtab .any (opsOf Try.f5 17) = chancellaw9_AboveMore.T17 := by kernel_rfl
theorem chancellaw9_AboveMore.bits17 : waitsOk chancellaw9_AboveMore.T17.2 chancellaw9_AboveMore.B17 = true := by kernel_rfl
def chancellaw9_AboveMore.T19 : Bool × List (List Nat × List Nat) := (true, [([], []), ([], []), ([1], [1]), ([], []), ([], []), ([3, 4], [3, 4]), ([0, 2, 5, 5], [0, 2, 5]), ([6, 6, 0, 1, 2, 3, 4, 5, 6], [6])])
def chancellaw9_AboveMore.B19 : List Nat := [0, 0, 2, 0, 0, 24, 63, 127]
theorem chancellaw9_AboveMore.tab19 : rtab .any (opsOf Try.f5 19) = chancellaw9_AboveMore.T19 := by kernel_rfl
theorem chancellaw9_AboveMore.bits19 : waitsOk chancellaw9_AboveMore.T19.2 chancellaw9_AboveMore.B19 = true := by kernel_rfl
set_option maxHeartbeats 8000000 in
set_option maxRecDepth 100000 in
theorem chancellaw9_AboveMore.calls (A0 : Option Addr) (c0 : Nat) (l0 : List (S49)) (a1 : Int) (a2 : Int) (r : Bool) (w : World) (hr0 : Kd.C k49 w A0 l0.length l0) (hc0 : l0.length ≤ c0) (h : ∀ g, GP.AnyG g → ∃ k, chancellaw9_AboveMore.g k g a1 a2 = some r) :
  Calls Try.prog 5 #[.slice A0 l0.length c0, .int .i64 a1, .int .i64 a2] w fun e w' => e = .returned (.bool r) ∧ Below w.heap.size w w' := by
 have hu38 := Try.underlying38
 have hu28 := Try.underlying28
 have HR0 := aZ_ hr0
 have HC0 := aZ_ hc0
 clear hr0 hc0
 have HB := aZ_ (Below.refl w.heap.size w)
 have A4 := aZ_ (rfl : chancellaw9_known.f = some true)
 have HH := aZ_ h
 clear h
 go_enter Try.func5, Try.ntmps5
 go_upto_region 4 with (first | (go_at_call 13; refine (chancellaw9_known.calls  true _ A4.out).mono ?_; rintro e w18 ⟨rfl, hb⟩; replace HB := aZ_ (below_step (bl HB) hb); (try clear hb); (try clear hb2); (try clear hk); (try clear hi)) | (go_at_call 14; refine (GA.rgood8 l0 _ _ _ ?side1 ?side2).mono ?_; (case side1 => exact kC (Kd.C_below HR0.out HB.out)); (case side2 => exact HC0.out); rintro e wG ⟨vG, t564, rfl, hag_, ho0, hb⟩; have HAG := aZ_ hag_; clear hag_; have HO566 := aZ_ (Kd.N_lower (Kd.N_mono (ok' := fun k_ => True) ho0 (fun k_ hk_ => trivial)) (below_size (bl HB))); replace HB := aZ_ (below_step (bl HB) hb); (try clear hb); (try clear hb2); (try clear hk); (try clear hi); (try clear ho0); obtain ⟨AoG, coG, eoG⟩ := Kd.N_slice HO566.out; subst eoG))
 obtain ⟨k, H⟩ := HH.out t564 HAG.out
 clear HH
 replace H : (if (t564.length : Int) = 0 then (some true) else ((chancellaw9_within.f a1 (t564.length : Int)).bind fun t567 => (if 0 ≤ t567 then (if t567 < (t564.length : Int) then ((some (([] : List (S28)) : List (S28))).bind fun y570 => (if y570.length + ((rd_T38 t564 t567).f1).length < 4398046511104 then ((some (y570 ++ ((rd_T38 t564 t567).f1) : List (S28))).bind fun y573 => ((chancellaw9_pick.f k t564 a2).bind fun bt576 => (if y573.length < 4398046511104 then ((some (y573 ++ [(⟨bt576.1, bt576.2⟩ : S28)] : List (S28))).bind fun y578 => ((chancelref8_Put.f k t564 ((rd_T38 t564 t567).f0.f0) ((rd_T38 t564 t567).f0.f1) y578 ((rd_T38 t564 t567).f2)).bind fun t581 => (chancellaw9_AboveMore.l0 k a2 t564 t581 0 ((rd_T38 t564 t567).f0.f0) ((rd_T38 t564 t567).f0.f1) y578 ((rd_T38 t564 t567).f2)))) else (none)))) else (none))) else (none)) else (none)))) = some r := H
 by_cases c5 : True
 ·
  clear c5
  by_cases c7 : (t564.length : Int) = 0
  ·
   rw [if_pos c7] at H
   have c7b0 : ((t564.length : Int) == 0) = true := beq_iff_eq.mpr c7
   have c7b1 : ((t564.length : Int) != 0) = false := bne_eq_false_iff_eq.mpr c7
   clear c7
   obtain rfl := Option.some.inj H
   try go_wp2
   go_ret
   exact ⟨by first | rfl | (simp [errW_none, errW_some] <;> rfl) | (simp [*, errW_none, errW_some] <;> rfl), bl HB⟩
  ·
   rw [if_neg c7] at H
   have c7b0 : ((t564.length : Int) == 0) = false := beq_eq_false_iff_ne.mpr c7
   have c7b1 : ((t564.length : Int) != 0) = true := bne_iff_ne.mpr c7
   have c7b2 : ¬ (t564 = []) := fun h_ => c7 (by rw [h_]; rfl)
   replace H := Option.bind_eq_some_iff.mp H
   obtain ⟨t567, A110, H⟩ := H
   replace H : (if 0 ≤ t567 then (if t567 < (t564.length : Int) then ((some (([] : List (S28)) : List (S28))).bind fun y570 => (if y570.length + ((rd_T38 t564 t567).f1).length < 4398046511104 then ((some (y570 ++ ((rd_T38 t564 t567).f1) : List (S28))).bind fun y573 => ((chancellaw9_pick.f k t564 a2).bind fun bt576 => (if y573.length < 4398046511104 then ((some (y573 ++ [(⟨bt576.1, bt576.2⟩ : S28)] : List (S28))).bind fun y578 => ((chancelref8_Put.f k t564 ((rd_T38 t564 t567).f0.f0) ((rd_T38 t564 t567).f0.f1) y578 ((rd_T38 t564 t567).f2)).bind fun t581 => (chancellaw9_AboveMore.l0 k a2 t564 t581 0 ((rd_T38 t564 t567).f0.f0) ((rd_T38 t564 t567).f0.f1) y578 ((rd_T38 t564 t567).f2)))) else (none)))) else (none))) else (none)) else (none)) = some r := H
   have A11 := aZ_ A110
   clear A110
   by_cases c12 : 0 ≤ t567
   ·
    rw [if_pos c12] at H
    have c12b0 : decide (0 ≤ t567) = true := decide_eq_true c12
    clear c12
    by_cases c13 : t567 < (t564.length : Int)
    ·
     rw [if_pos c13] at H
     have c13b0 : decide (t567 < (t564.length : Int)) = true := decide_eq_true c13
     clear c13
     obtain ⟨y570, hy570⟩ : ∃ y_ : List (S28), y_ = (([] : List (S28))) := ⟨_, rfl⟩
     replace H : (if y570.length + ((rd_T38 t564 t567).f1).length < 4398046511104 then ((some (y570 ++ ((rd_T38 t564 t567).f1) : List (S28))).bind fun y573 => ((chancellaw9_pick.f k t564 a2).bind fun bt576 => (if y573.length < 4398046511104 then ((some (y573 ++ [(⟨bt576.1, bt576.2⟩ : S28)] : List (S28))).bind fun y578 => ((chancelref8_Put.f k t564 ((rd_T38 t564 t567).f0.f0) ((rd_T38 t564 t567).f0.f1) y578 ((rd_T38 t564 t567).f2)).bind fun t581 => (chancellaw9_AboveMore.l0 k a2 t564 t581 0 ((rd_T38 t564 t567).f0.f0) ((rd_T38 t564 t567).f0.f1) y578 ((rd_T38 t564 t567).f2)))) else (none)))) else (none)) = some r := by first | (rw [hy570]; with_reducible exact H) | (have H2_ := (Option.bind_some _ _).symm.trans H; rw [hy570]; with_reducible exact H2_) | (have H2_ := (Option.bind_some _ _).symm.trans H; with_reducible exact H2_) | with_reducible exact H | (rw [hy570]; exact H) | exact H
     have Ny570 := aZ_ hy570
     clear hy570
     by_cases c14 : y570.length + ((rd_T38 t564 t567).f1).length < 4398046511104
     ·
      rw [if_pos c14] at H
      have LMc14 := aZ_ c14
      clear c14
      obtain ⟨y573, hy573⟩ : ∃ y_ : List (S28), y_ = (y570 ++ ((rd_T38 t564 t567).f1)) := ⟨_, rfl⟩
      replace H : ((chancellaw9_pick.f k t564 a2).bind fun bt576 => (if y573.length < 4398046511104 then ((some (y573 ++ [(⟨bt576.1, bt576.2⟩ : S28)] : List (S28))).bind fun y578 => ((chancelref8_Put.f k t564 ((rd_T38 t564 t567).f0.f0) ((rd_T38 t564 t567).f0.f1) y578 ((rd_T38 t564 t567).f2)).bind fun t581 => (chancellaw9_AboveMore.l0 k a2 t564 t581 0 ((rd_T38 t564 t567).f0.f0) ((rd_T38 t564 t567).f0.f1) y578 ((rd_T38 t564 t567).f2)))) else (none))) = some r := by first | (rw [hy573]; with_reducible exact H) | (have H2_ := (Option.bind_some _ _).symm.trans H; rw [hy573]; with_reducible exact H2_) | (have H2_ := (Option.bind_some _ _).symm.trans H; with_reducible exact H2_) | with_reducible exact H | (rw [hy573]; exact H) | exact H
      have Ny573 := aZ_ hy573
      clear hy573
      replace H := Option.bind_eq_some_iff.mp H
      obtain ⟨⟨t576, t577⟩, A150, H⟩ := H
      replace H : (if y573.length < 4398046511104 then ((some (y573 ++ [(⟨t576, t577⟩ : S28)] : List (S28))).bind fun y578 => ((chancelref8_Put.f k t564 ((rd_T38 t564 t567).f0.f0) ((rd_T38 t564 t567).f0.f1) y578 ((rd_T38 t564 t567).f2)).bind fun t581 => (chancellaw9_AboveMore.l0 k a2 t564 t581 0 ((rd_T38 t564 t567).f0.f0) ((rd_T38 t564 t567).f0.f1) y578 ((rd_T38 t564 t567).f2)))) else (none)) = some r := H
      have A15 := aZ_ A150
      clear A150
      by_cases c16 : y573.length < 4398046511104
      ·
       rw [if_pos c16] at H
       have LMc16 := aZ_ c16
       clear c16
       obtain ⟨y578, hy578⟩ : ∃ y_ : List (S28), y_ = (y573 ++ [(⟨t576, t577⟩ : S28)]) := ⟨_, rfl⟩
       replace H : ((chancelref8_Put.f k t564 ((rd_T38 t564 t567).f0.f0) ((rd_T38 t564 t567).f0.f1) y578 ((rd_T38 t564 t567).f2)).bind fun t581 => (chancellaw9_AboveMore.l0 k a2 t564 t581 0 ((rd_T38 t564 t567).f0.f0) ((rd_T38 t564 t567).f0.f1) y578 ((rd_T38 t564 t567).f2))) = some r := by first | (rw [hy578]; with_reducible exact H) | (have H2_ := (Option.bind_some _ _).symm.trans H; rw [hy578]; with_reducible exact H2_) | (have H2_ := (Option.bind_some _ _).symm.trans H; with_reducible exact H2_) | with_reducible exact H | (rw [hy578]; exact H) | exact H
       have Ny578 := aZ_ hy578
       clear hy578
       replace H := Option.bind_eq_some_iff.mp H
       obtain ⟨t581, A170, H⟩ := H
       replace H : (chancellaw9_AboveMore.l0 k a2 t564 t581 0 ((rd_T38 t564 t567).f0.f0) ((rd_T38 t564 t567).f0.f1) y578 ((rd_T38 t564 t567).f2)) = some r := H
       have A17 := aZ_ A170
       clear A170
       have H' := aZ_ H
       clear H
       go_wp2_with (first | ((with_reducible refine gate_callee (f := 25) rfl ?_); refine goesL_ (some 24) rfl rfl Try.func25 (by kernel_rfl) rfl #[.int .i64 a1, .int .i64 (t564.length : Int)] rfl gm_ ?_; (with_reducible refine (chancellaw9_within.calls a1 (t564.length : Int) t567 _ A11.out).mono ?_); rintro e w' ⟨rfl, ⟨nd, rfl⟩⟩; refine ⟨_, rfl, ?_⟩; (try (rw [drewN_self wG]; generalize hq_ : World.drewN wG _ = wG; have n0_ : Aside0 (Kd.N k38 38 wG w.heap.size (fun _ => True) (.slice AoG t564.length coG) t564) := ⟨by rw [← hq_]; exact (kN HO566)⟩; have n1_ : Aside0 (Below w.heap.size w wG) := ⟨by rw [← hq_]; exact (bl HB)⟩; clear HO566 HB hq_; have HO566 := n0_; have HB := n1_; clear n0_ n1_)); have p568 : 0 ≤ (t567 : Int) := of_decide_eq_true asm_; have q568 : t567 < (t564.length : Int) := of_decide_eq_true asm_; obtain ⟨ad568, A568_2, c568_2, A568_3, c568_3, e568, hx568_0, hx568_1, hx568_2, hx568_3, hl568_2, hi568_2, hl568_3, hi568_3⟩ := at_T38 (Kd.N_reads' HO566.out).2.2 t567 p568 q568; cases e568; obtain ⟨ce568, hce568, hMe568, hcc568⟩ := Kd.N_get HO566.out z38 t567 p568 (by first | exact q568 | exact of_decide_eq_true asm_ | (have e_ := (Kd.N_reads' HO566.out).1; omega)); obtain ⟨ua568_2, uc568_2, ua568_3, uc568_3, rfl, ul568_2, ge568_2, ul568_3, ge568_3⟩ := k38_openF hMe568; have hv568_2 := hcc568 2 _ rfl; rw [add_field _ _ 2 (by omega)] at hv568_2; replace hv568_2 := Option.some.inj (hv568_2.symm.trans hx568_2); injection hv568_2 with hva_ hvn_ hvc_; rw [hva_] at ge568_2; rw [hvc_] at ul568_2; have HL568_2 := aZ_ (show Kd.V k28 28 _ w.heap.size _ _ ((rd_T38 t564 t567).f1) from Kd.V_mk ul568_2 ge568_2); clear hva_ hvn_ hvc_ ge568_2 ul568_2; have hv568_3 := hcc568 3 _ rfl; rw [add_field _ _ 3 (by omega)] at hv568_3; replace hv568_3 := Option.some.inj (hv568_3.symm.trans hx568_3); injection hv568_3 with hva_ hvn_ hvc_; rw [hva_] at ge568_3; rw [hvc_] at ul568_3; have HL568_3 := aZ_ (show Kd.V k58 58 _ w.heap.size _ _ ((rd_T38 t564 t567).f2) from Kd.V_mk ul568_3 ge568_3); clear hva_ hvn_ hvc_ ge568_3 ul568_3; clear hcc568 hce568; have HR568_2 := aZ_ hi568_2; have HC568_2 := aZ_ hl568_2; clear hi568_2 hl568_2; have HR568_3 := aZ_ hi568_3; have HC568_3 := aZ_ hl568_3; clear hi568_3 hl568_3; replace p568 := eq_true p568; replace q568 := eq_true q568) | ((with_reducible refine gate_dst (N := 9) rfl ?_); refine bxE 9 #[.string (⟨#[]⟩ : ByteArray), .string (⟨#[]⟩ : ByteArray), .slice none 0 0, .slice none 0 0] 38 ?_; intro gb569 hg w21 hbox hb; replace HO566 := aZ_ (Kd.N_below (Kd.N_elderB (kN HO566) gb569 (Nat.le_of_eq hg.symm)) hb); replace HL568_2 := aZ_ (Kd.V_below (Kd.V_elderB (kV HL568_2) gb569 (Nat.le_of_eq hg.symm)) hb); replace HL568_3 := aZ_ (Kd.V_below (Kd.V_elderB (kV HL568_3) gb569 (Nat.le_of_eq hg.symm)) hb); replace HR568_2 := aZ_ (Kd.C_below (kD HR568_2) hb); replace HR568_3 := aZ_ (Kd.C_below (kD HR568_3) hb); have BK569 := aZ_ (hbox); have GW569 := aZ_ ((by rw [hg]; exact (below_size (bl HB)) : w.heap.size ≤ gb569)); have GE569 := aZ_ ((by rw [hg]; exact (below_size (bl HB)) : w.heap.size ≤ gb569)); replace HB := aZ_ (below_step (bl HB) hb); clear hb hbox hg; obtain ⟨hcz22_0, hcz22_1, hcz22_2, hcz22_3, hfz22_0, hfz22_1, hfz22_2, hfz22_3⟩ := bc4 BK569) | ((with_reducible refine gate_dst (N := 29) rfl ?_); refine Kd.R_lit k28 _ 28 ?hg (N := 29) ?hd (xs := ([] : List (S28))) (inner := []) (ok := fun _ => True) (okp := fun _ => True) ?hr ?hp (fun _ hk => hk) trivial (Below.refl _ _) (Nat.le_refl _) (by simp) ?_; (case hd => rfl); (case hg => rfl); (case hr => first | (go_simp; done) | (go_simp; rfl)); (case hp => exact (Reps.none _ _)); intro v571 w23 ho24 hb hg_ hnew_; clear hg_ hnew_; (first | rw [← Ny570.out] at ho24 | (simp only [Int.reduceToNat] at ho24; rw [← Ny570.out] at ho24)); replace HO566 := aZ_ (Kd.N_elder' (by (with_reducible repeat (first | apply Kd.N_alloc | apply Kd.N_drewN | apply Kd.N_drew)); exact (Kd.N_mono (Kd.N_far (p := ⟨gb569, 3, none⟩) (Kd.N_far (p := ⟨gb569, 2, none⟩) (Kd.N_far (p := ⟨gb569, 1, none⟩) (Kd.N_far (p := ⟨gb569, 0, none⟩) (Kd.N_mono HO566.out (fun k_ hk => (⟨hk, hk.2⟩ : _ ∧ k_ ≠ gb569))) (fun _ hk => hk.2) (.string ((rd_T38 t564 t567).f0.f0))) (fun _ hk => hk.2) (.string ((rd_T38 t564 t567).f0.f1))) (fun _ hk => hk.2) (.slice A568_2 ((rd_T38 t564 t567).f1).length c568_2)) (fun _ hk => hk.2) (.slice A568_3 ((rd_T38 t564 t567).f2).length c568_3)) (fun _ h_ => h_.1))) (Kd.R_base ho24) hb); have HO572 := aZ_ (Kd.R_lower ho24 (below_size (bl1 HB GE569))); replace HR568_2 := aZ_ (Kd.C_below ((Kd.V_reads' (by (with_reducible repeat (first | apply Kd.V_alloc | apply Kd.V_drewN | apply Kd.V_drew)); exact (Kd.V_mono (Kd.V_far (p := ⟨gb569, 3, none⟩) (Kd.V_far (p := ⟨gb569, 2, none⟩) (Kd.V_far (p := ⟨gb569, 1, none⟩) (Kd.V_far (p := ⟨gb569, 0, none⟩) (Kd.V_mono HL568_2.out (fun k_ hk => (⟨hk, hk.2⟩ : _ ∧ k_ ≠ gb569))) (fun _ hk => hk.2) (.string ((rd_T38 t564 t567).f0.f0))) (fun _ hk => hk.2) (.string ((rd_T38 t564 t567).f0.f1))) (fun _ hk => hk.2) (.slice A568_2 ((rd_T38 t564 t567).f1).length c568_2)) (fun _ hk => hk.2) (.slice A568_3 ((rd_T38 t564 t567).f2).length c568_3)) (fun _ h_ => h_.1)))).2.2) hb); replace HL568_2 := aZ_ (Kd.V_elder' (by (with_reducible repeat (first | apply Kd.V_alloc | apply Kd.V_drewN | apply Kd.V_drew)); exact (Kd.V_mono (Kd.V_far (p := ⟨gb569, 3, none⟩) (Kd.V_far (p := ⟨gb569, 2, none⟩) (Kd.V_far (p := ⟨gb569, 1, none⟩) (Kd.V_far (p := ⟨gb569, 0, none⟩) (Kd.V_mono HL568_2.out (fun k_ hk => (⟨hk, hk.2⟩ : _ ∧ k_ ≠ gb569))) (fun _ hk => hk.2) (.string ((rd_T38 t564 t567).f0.f0))) (fun _ hk => hk.2) (.string ((rd_T38 t564 t567).f0.f1))) (fun _ hk => hk.2) (.slice A568_2 ((rd_T38 t564 t567).f1).length c568_2)) (fun _ hk => hk.2) (.slice A568_3 ((rd_T38 t564 t567).f2).length c568_3)) (fun _ h_ => h_.1))) (Kd.R_base ho24) hb); replace HR568_3 := aZ_ (Kd.C_below ((Kd.V_reads' (by (with_reducible repeat (first | apply Kd.V_alloc | apply Kd.V_drewN | apply Kd.V_drew)); exact (Kd.V_mono (Kd.V_far (p := ⟨gb569, 3, none⟩) (Kd.V_far (p := ⟨gb569, 2, none⟩) (Kd.V_far (p := ⟨gb569, 1, none⟩) (Kd.V_far (p := ⟨gb569, 0, none⟩) (Kd.V_mono HL568_3.out (fun k_ hk => (⟨hk, hk.2⟩ : _ ∧ k_ ≠ gb569))) (fun _ hk => hk.2) (.string ((rd_T38 t564 t567).f0.f0))) (fun _ hk => hk.2) (.string ((rd_T38 t564 t567).f0.f1))) (fun _ hk => hk.2) (.slice A568_2 ((rd_T38 t564 t567).f1).length c568_2)) (fun _ hk => hk.2) (.slice A568_3 ((rd_T38 t564 t567).f2).length c568_3)) (fun _ h_ => h_.1)))).2.2) hb); replace HL568_3 := aZ_ (Kd.V_elder' (by (with_reducible repeat (first | apply Kd.V_alloc | apply Kd.V_drewN | apply Kd.V_drew)); exact (Kd.V_mono (Kd.V_far (p := ⟨gb569, 3, none⟩) (Kd.V_far (p := ⟨gb569, 2, none⟩) (Kd.V_far (p := ⟨gb569, 1, none⟩) (Kd.V_far (p := ⟨gb569, 0, none⟩) (Kd.V_mono HL568_3.out (fun k_ hk => (⟨hk, hk.2⟩ : _ ∧ k_ ≠ gb569))) (fun _ hk => hk.2) (.string ((rd_T38 t564 t567).f0.f0))) (fun _ hk => hk.2) (.string ((rd_T38 t564 t567).f0.f1))) (fun _ hk => hk.2) (.slice A568_2 ((rd_T38 t564 t567).f1).length c568_2)) (fun _ hk => hk.2) (.slice A568_3 ((rd_T38 t564 t567).f2).length c568_3)) (fun _ h_ => h_.1))) (Kd.R_base ho24) hb); replace BK569 := aZ_ (blk_below (g := gb569) (o := .cells #[.string ((rd_T38 t564 t567).f0.f0), .string ((rd_T38 t564 t567).f0.f1), .slice A568_2 ((rd_T38 t564 t567).f1).length c568_2, .slice A568_3 ((rd_T38 t564 t567).f2).length c568_3] 38 (0, 0)) (by (with_reducible repeat (first | refine blk_drewN ?_ _ | refine blk_drew ?_ | refine blk_alloc ?_ _)); refine blk_put (cs := #[.string ((rd_T38 t564 t567).f0.f0), .string ((rd_T38 t564 t567).f0.f1), .slice A568_2 ((rd_T38 t564 t567).f1).length c568_2, .slice none 0 0]) ?_ 3 _ rfl; (with_reducible repeat (first | refine blk_drewN ?_ _ | refine blk_drew ?_ | refine blk_alloc ?_ _)); refine blk_put (cs := #[.string ((rd_T38 t564 t567).f0.f0), .string ((rd_T38 t564 t567).f0.f1), .slice none 0 0, .slice none 0 0]) ?_ 2 _ rfl; (with_reducible repeat (first | refine blk_drewN ?_ _ | refine blk_drew ?_ | refine blk_alloc ?_ _)); refine blk_put (cs := #[.string ((rd_T38 t564 t567).f0.f0), .string (⟨#[]⟩ : ByteArray), .slice none 0 0, .slice none 0 0]) ?_ 1 _ rfl; (with_reducible repeat (first | refine blk_drewN ?_ _ | refine blk_drew ?_ | refine blk_alloc ?_ _)); refine blk_put (cs := #[.string (⟨#[]⟩ : ByteArray), .string (⟨#[]⟩ : ByteArray), .slice none 0 0, .slice none 0 0]) ?_ 0 _ rfl; (with_reducible repeat (first | refine blk_drewN ?_ _ | refine blk_drew ?_ | refine blk_alloc ?_ _)); exact BK569.out) hb); replace HB := aZ_ (below_step (bl1 HB GE569) hb); clear hb ho24; obtain ⟨hcz25_0, hcz25_1, hcz25_2, hcz25_3, hfz25_0, hfz25_1, hfz25_2, hfz25_3⟩ := bc4 BK569) | ((with_reducible refine gate_builtin (b := .append) (xs := #[.tmp 29, .tmp 31]) rfl ?_); at_builtin; refine Kd.R_append_rows k28 (w0 := w) w.heap.size rfl (.tmp 29) (.tmp 31) 30 28 (.agg #[(.string ⟨#[]⟩), (.string ⟨#[]⟩)]) 32 rfl Try.underlying30 info28 rfl (by decide) (by omega) v571 y570 ((rd_T38 t564 t567).f1) _ _ _ (fun _ => True) (fun _ => False) rfl rfl ?aO ?aR (fun _ _ h => h) (fun _ h => h.elim) ?aF ?aB ?aS ?aL ?_; (case aR => exact kD HR568_2); (case aB => exact (bl1 HB GE569)); (case aF => exact (fun _ _ => trivial)); (case aO => exact (kR HO572)); (case aS => exact (below_size (bl1 HB GE569))); (case aL => have := LMc14.out; omega); intro v574 w26 ho hb hg hat; rw [← Ny573.out] at ho; replace HO566 := aZ_ (Kd.N_afterv (ok := (fun k_ => k_ ≠ gb569)) (by (with_reducible repeat (first | apply Kd.N_alloc | apply Kd.N_drewN | apply Kd.N_drew)); exact Kd.N_mono HO566.out (fun _ hk => ⟨hk.1.2, hk.2⟩)) hg hat); replace HL568_2 := aZ_ (Kd.V_afterv (ok := (fun k_ => some k_ ≠ (.slice (some ad568) t564.length coG : Value).ownBlock ∧ k_ ≠ gb569)) (by (with_reducible repeat (first | apply Kd.V_alloc | apply Kd.V_drewN | apply Kd.V_drew)); exact Kd.V_mono HL568_2.out (fun _ hk => ⟨⟨hk.1.1.2, hk.1.2⟩, hk.2⟩)) hg hat); replace HL568_3 := aZ_ (Kd.V_afterv (ok := (fun k_ => some k_ ≠ (.slice (some ad568) t564.length coG : Value).ownBlock ∧ k_ ≠ gb569)) (by (with_reducible repeat (first | apply Kd.V_alloc | apply Kd.V_drewN | apply Kd.V_drew)); exact Kd.V_mono HL568_3.out (fun _ hk => ⟨⟨hk.1.1.2, hk.1.2⟩, hk.2⟩)) hg hat); replace BK569 := aZ_ (blk_grown (g := gb569) (o := .cells #[.string ((rd_T38 t564 t567).f0.f0), .string ((rd_T38 t564 t567).f0.f1), .slice A568_2 ((rd_T38 t564 t567).f1).length c568_2, .slice A568_3 ((rd_T38 t564 t567).f2).length c568_3] 38 (0, 0)) (bk BK569) hg (Kd.R_ne HO572.out BK569.out (by decide))); replace HB := aZ_ (hb); have HO575 := aZ_ (ho); clear HO572; clear ho hb hg hat) | ((with_reducible refine gate_callee (f := 15) rfl ?_); refine goesL_ (some 35) rfl rfl Try.func15 (by kernel_rfl) rfl #[.slice (some ad568) t564.length coG, .int .i64 a2] rfl gm_ ?_; (with_reducible refine (chancellaw9_pick.calls k _ _ t564 a2 t576 t577 _ ?side1 ?side2 A15.out).mono ?_); (case side1 => repeat (first | exact (Kd.N_reads' HO566.out).2.2 | (with_reducible refine Kd.C_alloc ?_ _) | (with_reducible refine Kd.C_drewN ?_ _) | (with_reducible refine Kd.C_drew ?_))); (case side2 => exact (Kd.N_reads' HO566.out).2.1); rintro e w27 ⟨rfl, hb⟩; refine ⟨_, rfl, ?_⟩; replace HO566 := aZ_ (Kd.N_below (kN HO566) hb); replace HL568_2 := aZ_ (Kd.V_below (kV HL568_2) hb); replace HL568_3 := aZ_ (Kd.V_below (kV HL568_3) hb); replace HO575 := aZ_ (Kd.R_below (kR HO575) hb); replace BK569 := aZ_ (blk_below (g := gb569) (o := .cells #[.string ((rd_T38 t564 t567).f0.f0), .string ((rd_T38 t564 t567).f0.f1), .slice A568_2 ((rd_T38 t564 t567).f1).length c568_2, .slice A568_3 ((rd_T38 t564 t567).f2).length c568_3] 38 (0, 0)) (bk BK569) hb); replace HB := aZ_ (below_step (bl1 HB GE569) hb); (try clear hb); (try clear hb2); (try clear hk); (try clear hi)) | ((with_reducible refine gate_builtin (b := .append) (xs := #[.tmp 32, .tmp 36]) rfl ?_); at_builtin; refine Kd.R_append k28 (w0 := w) w.heap.size rfl (.tmp 32) (.tmp 36) 30 28 (.agg #[(.string ⟨#[]⟩), (.string ⟨#[]⟩)]) 32 rfl Try.underlying30 info28 rfl (by decide) (by omega) v574 y573 (⟨t576, t577⟩ : S28) [.string t576, .string t577] (fun _ => True) (fun _ => False) rfl rfl ?aP (fun _ hk => hk.elim) ?aF ?aO ?aB ?aS ?aL ?_; (case aP => exact k28_mkM _ _ _ (⟨t576, t577⟩ : S28)); (case aB => exact (bl1 HB GE569)); (case aF => exact (fun _ _ => trivial)); (case aO => exact (kR HO575)); (case aS => exact (below_size (bl1 HB GE569))); (case aL => have := LMc16.out; omega); intro v579 w28 ho hb hg hat; rw [← Ny578.out] at ho; replace HO566 := aZ_ (Kd.N_afterv (ok := (fun k_ => k_ ≠ gb569)) (kN HO566) hg hat); replace HL568_2 := aZ_ (Kd.V_afterv (ok := (fun k_ => some k_ ≠ (.slice (some ad568) t564.length coG : Value).ownBlock ∧ k_ ≠ gb569)) (kV HL568_2) hg hat); replace HL568_3 := aZ_ (Kd.V_afterv (ok := (fun k_ => some k_ ≠ (.slice (some ad568) t564.length coG : Value).ownBlock ∧ k_ ≠ gb569)) (kV HL568_3) hg hat); replace BK569 := aZ_ (blk_grown (g := gb569) (o := .cells #[.string ((rd_T38 t564 t567).f0.f0), .string ((rd_T38 t564 t567).f0.f1), .slice A568_2 ((rd_T38 t564 t567).f1).length c568_2, .slice A568_3 ((rd_T38 t564 t567).f2).length c568_3] 38 (0, 0)) (bk BK569) hg (Kd.R_ne HO575.out BK569.out (by decide))); replace HB := aZ_ (hb); have HO580 := aZ_ (ho); clear HO575; clear ho hb hg hat; obtain ⟨Ao29, co29, eo29⟩ := Kd.R_slice HO580.out; subst eo29; obtain ⟨hcz30_0, hcz30_1, hcz30_2, hcz30_3, hfz30_0, hfz30_1, hfz30_2, hfz30_3⟩ := bc4 BK569) | ((with_reducible refine gate_store (t := 30) (p := 38) rfl ?_); refine store_event (t := 30) (p := 38) (v := ?vo_w31) (w1 := (w28.setCell ⟨gb569, 2, none⟩ (.slice Ao29 y578.length co29))) ?hg ?ho ?hn ?hr ?_; (case ho => rfl); (case hg => rfl); (case hn => rfl); (case hr => first | (go_simp; done) | (go_simp; rfl)); intro w31 hw; replace HO566 : Aside0 (Kd.N k38 38 w31 w.heap.size (fun k_ => some k_ ≠ (.slice Ao29 y578.length co29 : Value).ownBlock ∧ k_ ≠ gb569) (.slice (some ad568) t564.length coG) t564) := ⟨(by rw [hw]; exact (by (with_reducible repeat (first | apply Kd.N_alloc | apply Kd.N_drewN | apply Kd.N_drew)); exact Kd.N_mono (Kd.N_far (p := ⟨gb569, 2, none⟩) (Kd.N_mono HO566.out (fun k_ hk => (⟨hk, hk.1⟩ : _ ∧ k_ ≠ gb569))) (fun _ hk => hk.2) (.slice Ao29 y578.length co29)) (fun _ hk => ⟨hk.1.2, hk.1.1⟩)))⟩; replace HL568_2 : Aside0 (Kd.V k28 28 w31 w.heap.size (fun k_ => some k_ ≠ (.slice (some ad568) t564.length coG : Value).ownBlock ∧ some k_ ≠ (.slice Ao29 y578.length co29 : Value).ownBlock ∧ k_ ≠ gb569) (.slice A568_2 ((rd_T38 t564 t567).f1).length c568_2) ((rd_T38 t564 t567).f1)) := ⟨(by rw [hw]; exact (by (with_reducible repeat (first | apply Kd.V_alloc | apply Kd.V_drewN | apply Kd.V_drew)); exact Kd.V_mono (Kd.V_far (p := ⟨gb569, 2, none⟩) (Kd.V_mono HL568_2.out (fun k_ hk => (⟨hk, hk.1.2⟩ : _ ∧ k_ ≠ gb569))) (fun _ hk => hk.2) (.slice Ao29 y578.length co29)) (fun _ hk => ⟨hk.1.1.1, ⟨hk.1.2, hk.1.1.2⟩⟩)))⟩; replace HL568_3 : Aside0 (Kd.V k58 58 w31 w.heap.size (fun k_ => some k_ ≠ (.slice (some ad568) t564.length coG : Value).ownBlock ∧ some k_ ≠ (.slice Ao29 y578.length co29 : Value).ownBlock ∧ k_ ≠ gb569) (.slice A568_3 ((rd_T38 t564 t567).f2).length c568_3) ((rd_T38 t564 t567).f2)) := ⟨(by rw [hw]; exact (by (with_reducible repeat (first | apply Kd.V_alloc | apply Kd.V_drewN | apply Kd.V_drew)); exact Kd.V_mono (Kd.V_far (p := ⟨gb569, 2, none⟩) (Kd.V_mono HL568_3.out (fun k_ hk => (⟨hk, hk.1.2⟩ : _ ∧ k_ ≠ gb569))) (fun _ hk => hk.2) (.slice Ao29 y578.length co29)) (fun _ hk => ⟨hk.1.1.1, ⟨hk.1.2, hk.1.1.2⟩⟩)))⟩; replace HO580 : Aside0 (Kd.R k28 28 w31 w.heap.size (fun _ => True) (.slice Ao29 y578.length co29) y578) := ⟨(by rw [hw]; exact (by (with_reducible repeat (first | apply Kd.R_alloc | apply Kd.R_drewN | apply Kd.R_drew)); exact Kd.R_mono (Kd.R_far (p := ⟨gb569, 2, none⟩) (Kd.R_types HO580.out BK569.out (by decide)) (fun _ hk => hk.2) (.slice Ao29 y578.length co29)) (fun _ hk => trivial)))⟩; replace BK569 : Aside0 (w31.heap[gb569]? = some (.cells #[.string ((rd_T38 t564 t567).f0.f0), .string ((rd_T38 t564 t567).f0.f1), .slice Ao29 y578.length co29, .slice A568_3 ((rd_T38 t564 t567).f2).length c568_3] 38 (0, 0))) := ⟨(by rw [hw]; exact (by (with_reducible repeat (first | refine blk_drewN ?_ _ | refine blk_drew ?_ | refine blk_alloc ?_ _)); refine blk_put (cs := #[.string ((rd_T38 t564 t567).f0.f0), .string ((rd_T38 t564 t567).f0.f1), .slice A568_2 ((rd_T38 t564 t567).f1).length c568_2, .slice A568_3 ((rd_T38 t564 t567).f2).length c568_3]) ?_ 2 _ rfl; (with_reducible repeat (first | refine blk_drewN ?_ _ | refine blk_drew ?_ | refine blk_alloc ?_ _)); exact BK569.out))⟩; replace HB : Aside0 (Below w.heap.size w w31) := ⟨(by rw [hw]; exact (bl1 HB GE569))⟩; clear hw; obtain ⟨hcz32_0, hcz32_1, hcz32_2, hcz32_3, hfz32_0, hfz32_1, hfz32_2, hfz32_3⟩ := bc4 BK569) | ((with_reducible refine gate_callee (f := 26) rfl ?_); refine goesL_ (some 41) rfl rfl Try.func26 (by kernel_rfl) rfl #[.slice (some ad568) t564.length coG, .agg #[.string ((rd_T38 t564 t567).f0.f0), .string ((rd_T38 t564 t567).f0.f1), .slice Ao29 y578.length co29, .slice A568_3 ((rd_T38 t564 t567).f2).length c568_3]] rfl gm_ ?_; (with_reducible refine (chancelref8_Put.calls k (fun k_ => (some k_ ≠ (.slice Ao29 y578.length co29 : Value).ownBlock ∧ k_ ≠ gb569)) _ _ t564 ((rd_T38 t564 t567).f0.f0) ((rd_T38 t564 t567).f0.f1) (fun k_ => some k_ = (.slice Ao29 y578.length co29 : Value).ownBlock) _ _ y578 (fun k_ => (some k_ ≠ (.slice (some ad568) t564.length coG : Value).ownBlock ∧ (some k_ ≠ (.slice Ao29 y578.length co29 : Value).ownBlock ∧ k_ ≠ gb569))) _ _ ((rd_T38 t564 t567).f2) t581 _ ?side1 ?side2 ?side3 A17.out).mono ?_); (case side1 => exact Kd.N_V (HO566.out)); (case side2 => exact Kd.R_V (Kd.R_tight rfl (Kd.R_types (Kd.R_apart' (HO580.out) (Kd.N_typed HO566.out) (by decide)) BK569.out (by decide)))); (case side3 => exact HL568_3.out); rintro e w33 ⟨v582, rfl, ho0, hb⟩; refine ⟨_, rfl, ?_⟩; replace HL568_2 := aZ_ (Kd.V_elder' (kV HL568_2) (by first | exact Kd.N_base ho0 | exact Kd.R_base ho0) hb); replace HL568_3 := aZ_ (Kd.V_elder' (kV HL568_3) (by first | exact Kd.N_base ho0 | exact Kd.R_base ho0) hb); have HO583 := aZ_ (Kd.N_lower (Kd.N_mono (ok' := fun k_ => k_ ≠ gb569) ho0 (fun k_ hk_ => Or.elim hk_ (fun hs_ => Or.elim hs_ (fun hs_ => hs_.2) (fun hs_ => Or.elim hs_ (fun hs_ => ((Kd.R_types (Kd.R_apart' (HO580.out) (Kd.N_typed HO566.out) (by decide)) BK569.out (by decide)).1 k_ hs_.symm).2) (fun hs_ => hs_.2.2))) (fun hn_ => (Kd.freshB (g := gb569) (o := .cells #[.string ((rd_T38 t564 t567).f0.f0), .string ((rd_T38 t564 t567).f0.f1), .slice Ao29 y578.length co29, .slice A568_3 ((rd_T38 t564 t567).f2).length c568_3] 38 (0, 0)) (bk BK569) k_ hn_)))) (below_size (bl1 HB GE569))); replace HO566 := aZ_ (Kd.N_elder' (kN HO566) (by first | exact Kd.N_base ho0 | exact Kd.R_base ho0) hb); replace HO580 := aZ_ (Kd.R_below (kR HO580) hb); replace BK569 := aZ_ (blk_below (g := gb569) (o := .cells #[.string ((rd_T38 t564 t567).f0.f0), .string ((rd_T38 t564 t567).f0.f1), .slice Ao29 y578.length co29, .slice A568_3 ((rd_T38 t564 t567).f2).length c568_3] 38 (0, 0)) (bk BK569) hb); replace HB := aZ_ (below_step (bl1 HB GE569) hb); (try clear hb); (try clear hb2); (try clear hk); (try clear hi); (try clear ho0)))
       go_loopg [11] k (fun kq v11 w' => ∃ (x11_1 : Int), v11 = .int .i64 x11_1 ∧ Aside0 (chancellaw9_AboveMore.l0 kq a2 t564 t581 x11_1 ((rd_T38 t564 t567).f0.f0) ((rd_T38 t564 t567).f0.f1) y578 ((rd_T38 t564 t567).f2) = some r) ∧ Aside0 (kq ≤ k) ∧ Aside0 (Kd.N k38 38 w' w.heap.size (fun k_ => some k_ ≠ (v582 : Value).ownBlock ∧ some k_ ≠ ((.slice Ao29 y578.length co29) : Value).ownBlock ∧ k_ ≠ gb569) (.slice (some ad568) t564.length coG) t564) ∧ Aside0 (Kd.N k38 38 w' w.heap.size (fun k_ => k_ ≠ gb569) v582 t581) ∧ Aside0 (Kd.R k28 28 w' w.heap.size (fun _ => True) (.slice Ao29 y578.length co29) y578) ∧ Aside0 (w'.heap[gb569]? = some (.cells #[.string ((rd_T38 t564 t567).f0.f0), .string ((rd_T38 t564 t567).f0.f1), (.slice Ao29 y578.length co29), (.slice A568_3 ((rd_T38 t564 t567).f2).length c568_3)] 38 (0, 0))) ∧ Aside0 (Below w.heap.size w w'))
       case atStart => exact ⟨(0), rf_, H', ⟨Nat.le_refl _⟩, ⟨by (with_reducible repeat (first | apply Kd.N_alloc | apply Kd.N_drewN | apply Kd.N_drew)); exact Kd.N_mono HO566.out (fun _ hk => ⟨hk.2, ⟨hk.1.1, hk.1.2⟩⟩)⟩, ⟨kN HO583⟩, ⟨kR HO580⟩, ⟨bk BK569⟩, ⟨bl1 HB GE569⟩⟩
       case round =>
        clear H'
        try clear c1
        try clear c2
        try clear p2
        try clear c5
        try clear p5
        try clear q5
        try clear hx5
        try clear c7
        try clear c7b0
        try clear c7b1
        try clear c7b2
        try clear c12
        try clear c12b0
        try clear c13
        try clear c13b0
        try clear c14
        try clear c15
        try clear c16
        try clear c25
        try clear c26
        try clear hcz22_0
        try clear hcz22_1
        try clear hcz22_2
        try clear hcz22_3
        try clear hcz25_0
        try clear hcz25_1
        try clear hcz25_2
        try clear hcz25_3
        try clear hcz30_0
        try clear hcz30_1
        try clear hcz30_2
        try clear hcz30_3
        try clear hcz32_0
        try clear hcz32_1
        try clear hcz32_2
        try clear hcz32_3
        try clear hfz22_0
        try clear hfz22_1
        try clear hfz22_2
        try clear hfz22_3
        try clear hfz25_0
        try clear hfz25_1
        try clear hfz25_2
        try clear hfz25_3
        try clear hfz30_0
        try clear hfz30_1
        try clear hfz30_2
        try clear hfz30_3
        try clear hfz32_0
        try clear hfz32_1
        try clear hfz32_2
        try clear hfz32_3
        try clear hx568_0
        try clear hx568_1
        try clear hx568_2
        try clear hx568_3
        try clear p568
        try clear q568
        obtain ⟨x11_1, rfl, HA, HK1, HO_7, HO_10, HO_570002, BK569, HB⟩ := hrel
        cases gk with
        | zero => exact absurd HA.out (by simp [chancellaw9_AboveMore.l0])
        | succ k1 =>
         have H := HA.out
         clear HA
         simp only [chancellaw9_AboveMore.l0] at H
         by_cases c34 : x11_1 < (t564.length : Int)
         ·
          rw [if_pos c34] at H
          have c34b0 : decide (x11_1 < (t564.length : Int)) = true := decide_eq_true c34
          clear c34
          by_cases c35 : 0 ≤ x11_1
          ·
           rw [if_pos c35] at H
           have c35b0 : decide (0 ≤ x11_1) = true := decide_eq_true c35
           clear c35
           replace H := Option.bind_eq_some_iff.mp H
           obtain ⟨t588, A360, H⟩ := H
           replace H : (chancellaw9_AboveMore.l1 k1 a2 t564 t581 x11_1 t588 0 ((rd_T38 t564 t567).f0.f0) ((rd_T38 t564 t567).f0.f1) y578 ((rd_T38 t564 t567).f2)) = some r := H
           have A36 := aZ_ A360
           clear A360
           have H' := aZ_ H
           clear H
           have p587 : 0 ≤ (x11_1 : Int) := of_decide_eq_true asm_
           have q587 : x11_1 < (t564.length : Int) := of_decide_eq_true asm_
           obtain ⟨ad587, A587_2, c587_2, A587_3, c587_3, e587, hx587_0, hx587_1, hx587_2, hx587_3, hl587_2, hi587_2, hl587_3, hi587_3⟩ := at_T38 (Kd.N_reads' HO_7.out).2.2 x11_1 p587 q587
           obtain rfl : ad568 = ad587 := (by injection e587)
           obtain ⟨ce587, hce587, hMe587, hcc587⟩ := Kd.N_get HO_7.out z38 x11_1 p587 (by first | exact q587 | exact of_decide_eq_true asm_ | (have e_ := (Kd.N_reads' HO_7.out).1; omega))
           obtain ⟨ua587_2, uc587_2, ua587_3, uc587_3, rfl, ul587_2, ge587_2, ul587_3, ge587_3⟩ := k38_openF hMe587
           have hv587_2 := hcc587 2 _ rfl
           rw [add_field _ _ 2 (by omega)] at hv587_2
           replace hv587_2 := Option.some.inj (hv587_2.symm.trans hx587_2)
           injection hv587_2 with hva_ hvn_ hvc_
           rw [hva_] at ge587_2
           rw [hvc_] at ul587_2
           have HL587_2 := aZ_ (show Kd.V k28 28 _ w.heap.size _ _ ((rd_T38 t564 x11_1).f1) from Kd.V_mk ul587_2 ge587_2)
           clear hva_ hvn_ hvc_ ge587_2 ul587_2
           have hv587_3 := hcc587 3 _ rfl
           rw [add_field _ _ 3 (by omega)] at hv587_3
           replace hv587_3 := Option.some.inj (hv587_3.symm.trans hx587_3)
           injection hv587_3 with hva_ hvn_ hvc_
           rw [hva_] at ge587_3
           rw [hvc_] at ul587_3
           have HL587_3 := aZ_ (show Kd.V k58 58 _ w.heap.size _ _ ((rd_T38 t564 x11_1).f2) from Kd.V_mk ul587_3 ge587_3)
           clear hva_ hvn_ hvc_ ge587_3 ul587_3
           clear hcc587 hce587
           have HR587_2 := aZ_ hi587_2
           have HC587_2 := aZ_ hl587_2
           clear hi587_2 hl587_2
           have HR587_3 := aZ_ hi587_3
           have HC587_3 := aZ_ hl587_3
           clear hi587_3 hl587_3
           replace p587 := eq_true p587
           replace q587 := eq_true q587
           go_wp2_with (first | ((with_reducible refine gate_callee (f := 19) rfl ?_); refine goesL_ (some 54) rfl rfl Try.func19 (by kernel_rfl) rfl #[.slice (some ad568) t564.length coG, .agg #[.string ((rd_T38 t564 x11_1).f0.f0), .string ((rd_T38 t564 x11_1).f0.f1)]] rfl gm_ ?_; (with_reducible refine (above_Above.calls _ _ t564 ((rd_T38 t564 x11_1).f0.f0) ((rd_T38 t564 x11_1).f0.f1) t588 _ ?side1 ?side2 A36.out).mono ?_); (case side1 => repeat (first | exact (Kd.N_reads' HO_7.out).2.2 | (with_reducible refine Kd.C_alloc ?_ _) | (with_reducible refine Kd.C_drewN ?_ _) | (with_reducible refine Kd.C_drew ?_))); (case side2 => exact (Kd.N_reads' HO_7.out).2.1); rintro e w37 ⟨v589, rfl, ho0, hb⟩; refine ⟨_, rfl, ?_⟩; replace HL587_2 := aZ_ (Kd.V_below (kV HL587_2) hb); replace HL587_3 := aZ_ (Kd.V_below (kV HL587_3) hb); have HO590 := aZ_ (Kd.V_lower (Kd.V_mono (ok' := fun k_ => some k_ ≠ (.slice (some ad568) t564.length coG : Value).ownBlock ∧ some k_ ≠ (v582 : Value).ownBlock ∧ some k_ ≠ (.slice Ao29 y578.length co29 : Value).ownBlock ∧ k_ ≠ gb569) ho0 (fun k_ hk_ => ⟨(Kd.fresh' (Kd.N_lt (kN HO_7)) k_ hk_), (Kd.fresh' (Kd.N_lt (kN HO_10)) k_ hk_), (Kd.fresh' (Kd.R_lt (kR HO_570002)) k_ hk_), (Kd.freshB (g := gb569) (o := .cells #[.string ((rd_T38 t564 t567).f0.f0), .string ((rd_T38 t564 t567).f0.f1), .slice Ao29 y578.length co29, .slice A568_3 ((rd_T38 t564 t567).f2).length c568_3] 38 (0, 0)) (bk BK569) k_ hk_)⟩)) (below_size (bl1 HB GE569))); replace HO_7 := aZ_ (Kd.N_below (kN HO_7) hb); replace HO_10 := aZ_ (Kd.N_below (kN HO_10) hb); replace HO_570002 := aZ_ (Kd.R_below (kR HO_570002) hb); replace BK569 := aZ_ (blk_below (g := gb569) (o := .cells #[.string ((rd_T38 t564 t567).f0.f0), .string ((rd_T38 t564 t567).f0.f1), .slice Ao29 y578.length co29, .slice A568_3 ((rd_T38 t564 t567).f2).length c568_3] 38 (0, 0)) (bk BK569) hb); replace HR587_2 := aZ_ (Kd.C_below (kD HR587_2) hb); replace HR587_3 := aZ_ (Kd.C_below (kD HR587_3) hb); replace HB := aZ_ (below_step (bl1 HB GE569) hb); (try clear hb); (try clear hb2); (try clear hk); (try clear hi); (try clear ho0)))
           go_loopg [13] k1 (fun kq v13 w' => ∃ (x13_2 : Int), v13 = .int .i64 x13_2 ∧ Aside0 (chancellaw9_AboveMore.l1 kq a2 t564 t581 x11_1 t588 x13_2 ((rd_T38 t564 t567).f0.f0) ((rd_T38 t564 t567).f0.f1) y578 ((rd_T38 t564 t567).f2) = some r) ∧ Aside0 (kq ≤ k1) ∧ Aside0 (Kd.N k38 38 w' w.heap.size (fun k_ => some k_ ≠ (v582 : Value).ownBlock ∧ some k_ ≠ ((.slice Ao29 y578.length co29) : Value).ownBlock ∧ k_ ≠ gb569) (.slice (some ad568) t564.length coG) t564) ∧ Aside0 (Kd.N k38 38 w' w.heap.size (fun k_ => k_ ≠ gb569) v582 t581) ∧ Aside0 (Kd.V k28 28 w' w.heap.size (fun k_ => some k_ ≠ ((.slice (some ad568) t564.length coG) : Value).ownBlock ∧ some k_ ≠ (v582 : Value).ownBlock ∧ some k_ ≠ ((.slice Ao29 y578.length co29) : Value).ownBlock ∧ k_ ≠ gb569) v589 t588) ∧ Aside0 (Kd.R k28 28 w' w.heap.size (fun _ => True) (.slice Ao29 y578.length co29) y578) ∧ Aside0 (w'.heap[gb569]? = some (.cells #[.string ((rd_T38 t564 t567).f0.f0), .string ((rd_T38 t564 t567).f0.f1), (.slice Ao29 y578.length co29), (.slice A568_3 ((rd_T38 t564 t567).f2).length c568_3)] 38 (0, 0))) ∧ Aside0 (Kd.C k28 w' A587_2 ((rd_T38 t564 x11_1).f1).length ((rd_T38 t564 x11_1).f1)) ∧ Aside0 (Kd.C k58 w' A587_3 ((rd_T38 t564 x11_1).f2).length ((rd_T38 t564 x11_1).f2)) ∧ Aside0 (Below w.heap.size w w'))
           case atStart => exact ⟨(0), rf_, H', ⟨Nat.le_refl _⟩, ⟨kN HO_7⟩, ⟨kN HO_10⟩, ⟨kV HO590⟩, ⟨kR HO_570002⟩, ⟨bk BK569⟩, ⟨kD HR587_2⟩, ⟨kD HR587_3⟩, ⟨bl1 HB GE569⟩⟩
           case round =>
            clear H'
            try clear c1
            try clear c2
            try clear p2
            try clear c3
            try clear c5
            try clear p5
            try clear q5
            try clear hx5
            try clear c7
            try clear c7b0
            try clear c7b1
            try clear c7b2
            try clear c12
            try clear c12b0
            try clear c13
            try clear c13b0
            try clear c14
            try clear c15
            try clear c16
            try clear c19
            try clear c25
            try clear c26
            try clear c34
            try clear c34b0
            try clear c35
            try clear c35b0
            try clear hcz22_0
            try clear hcz22_1
            try clear hcz22_2
            try clear hcz22_3
            try clear hcz25_0
            try clear hcz25_1
            try clear hcz25_2
            try clear hcz25_3
            try clear hcz30_0
            try clear hcz30_1
            try clear hcz30_2
            try clear hcz30_3
            try clear hcz32_0
            try clear hcz32_1
            try clear hcz32_2
            try clear hcz32_3
            try clear hfz22_0
            try clear hfz22_1
            try clear hfz22_2
            try clear hfz22_3
            try clear hfz25_0
            try clear hfz25_1
            try clear hfz25_2
            try clear hfz25_3
            try clear hfz30_0
            try clear hfz30_1
            try clear hfz30_2
            try clear hfz30_3
            try clear hfz32_0
            try clear hfz32_1
            try clear hfz32_2
            try clear hfz32_3
            try clear hx568_0
            try clear hx568_1
            try clear hx568_2
            try clear hx568_3
            try clear hx587_0
            try clear hx587_1
            try clear hx587_2
            try clear hx587_3
            try clear p2
            try clear p5
            try clear p568
            try clear p587
            try clear q5
            try clear q568
            try clear q587
            obtain ⟨x13_2, rfl, HA, HK2, HO_7, HO_10, HO_12, HO_570002, BK569, HR587_2, HR587_3, HB⟩ := hrel
            cases gk with
            | zero => exact absurd HA.out (by simp [chancellaw9_AboveMore.l1])
            | succ k2 =>
             have H := HA.out
             clear HA
             simp only [chancellaw9_AboveMore.l1] at H
             by_cases c38 : x13_2 < (t588.length : Int)
             ·
              rw [if_pos c38] at H
              have c38b0 : decide (x13_2 < (t588.length : Int)) = true := decide_eq_true c38
              clear c38
              by_cases c39 : 0 ≤ x11_1
              ·
               rw [if_pos c39] at H
               have c39b0 : decide (0 ≤ x11_1) = true := decide_eq_true c39
               clear c39
               by_cases c40 : x11_1 < (t564.length : Int)
               ·
                rw [if_pos c40] at H
                have c40b0 : decide (x11_1 < (t564.length : Int)) = true := decide_eq_true c40
                clear c40
                by_cases c41 : 0 ≤ x13_2
                ·
                 rw [if_pos c41] at H
                 have c41b0 : decide (0 ≤ x13_2) = true := decide_eq_true c41
                 clear c41
                 replace H := Option.bind_eq_some_iff.mp H
                 obtain ⟨t593, A420, H⟩ := H
                 replace H : (if t593 = true then (chancellaw9_AboveMore.l1 k2 a2 t564 t581 x11_1 t588 (wrap64 (x13_2 + 1)) ((rd_T38 t564 t567).f0.f0) ((rd_T38 t564 t567).f0.f1) y578 ((rd_T38 t564 t567).f2)) else (some false)) = some r := H
                 have A42 := aZ_ A420
                 clear A420
                 by_cases c43 : t593 = true
                 ·
                  subst c43
                  have H1 : (chancellaw9_AboveMore.l1 k2 a2 t564 t581 x11_1 t588 (wrap64 (x13_2 + 1)) ((rd_T38 t564 t567).f0.f0) ((rd_T38 t564 t567).f0.f1) y578 ((rd_T38 t564 t567).f2)) = some r := by rw [if_pos rfl] at H; exact H
                  clear H
                  have H := H1
                  clear H1
                  have H' := aZ_ H
                  clear H
                  obtain ⟨Ao44, co44, eo44⟩ := Kd.V_slice HO_12.out
                  subst eo44
                  try go_wp2
                  replace HO_7 := aZ_ (Kd.N_drew HO_7.out)
                  replace HO_10 := aZ_ (Kd.N_drew HO_10.out)
                  replace HO_12 := aZ_ (Kd.V_drew HO_12.out)
                  replace HO_570002 := aZ_ (Kd.R_drew HO_570002.out)
                  replace BK569 := aZ_ (blk_drew BK569.out)
                  replace HR587_2 := aZ_ (Kd.C_drew HR587_2.out)
                  replace HR587_3 := aZ_ (Kd.C_drew HR587_3.out)
                  replace HB := aZ_ (below_drew1 HB.out)
                  have p591 : 0 ≤ (x11_1 : Int) := of_decide_eq_true asm_
                  have q591 : x11_1 < (t564.length : Int) := of_decide_eq_true asm_
                  obtain ⟨ad591, A591_2, c591_2, A591_3, c591_3, e591, hx591_0, hx591_1, hx591_2, hx591_3, hl591_2, hi591_2, hl591_3, hi591_3⟩ := at_T38 (Kd.N_reads' HO_7.out).2.2 x11_1 p591 q591
                  obtain rfl : ad568 = ad591 := (by injection e591)
                  obtain ⟨ce591, hce591, hMe591, hcc591⟩ := Kd.N_get HO_7.out z38 x11_1 p591 (by first | exact q591 | exact of_decide_eq_true asm_ | (have e_ := (Kd.N_reads' HO_7.out).1; omega))
                  obtain ⟨ua591_2, uc591_2, ua591_3, uc591_3, rfl, ul591_2, ge591_2, ul591_3, ge591_3⟩ := k38_openF hMe591
                  have hv591_2 := hcc591 2 _ rfl
                  rw [add_field _ _ 2 (by omega)] at hv591_2
                  replace hv591_2 := Option.some.inj (hv591_2.symm.trans hx591_2)
                  injection hv591_2 with hva_ hvn_ hvc_
                  rw [hva_] at ge591_2
                  rw [hvc_] at ul591_2
                  have HL591_2 := aZ_ (show Kd.V k28 28 _ w.heap.size _ _ ((rd_T38 t564 x11_1).f1) from Kd.V_mk ul591_2 ge591_2)
                  clear hva_ hvn_ hvc_ ge591_2 ul591_2
                  have hv591_3 := hcc591 3 _ rfl
                  rw [add_field _ _ 3 (by omega)] at hv591_3
                  replace hv591_3 := Option.some.inj (hv591_3.symm.trans hx591_3)
                  injection hv591_3 with hva_ hvn_ hvc_
                  rw [hva_] at ge591_3
                  rw [hvc_] at ul591_3
                  have HL591_3 := aZ_ (show Kd.V k58 58 _ w.heap.size _ _ ((rd_T38 t564 x11_1).f2) from Kd.V_mk ul591_3 ge591_3)
                  clear hva_ hvn_ hvc_ ge591_3 ul591_3
                  clear hcc591 hce591
                  have HR591_2 := aZ_ hi591_2
                  have HC591_2 := aZ_ hl591_2
                  clear hi591_2 hl591_2
                  have HR591_3 := aZ_ hi591_3
                  have HC591_3 := aZ_ hl591_3
                  clear hi591_3 hl591_3
                  replace p591 := eq_true p591
                  replace q591 := eq_true q591
                  have p592 : 0 ≤ (x13_2 : Int) := of_decide_eq_true asm_
                  have q592 : x13_2 < (t588.length : Int) := of_decide_eq_true asm_
                  obtain ⟨ad592, e592, hx592_0, hx592_1⟩ := at_T28 (Kd.V_reads' HO_12.out).2.2 x13_2 p592 q592
                  cases e592
                  replace p592 := eq_true p592
                  replace q592 := eq_true q592
                  obtain ⟨Ao46, co46, eo46⟩ := Kd.N_slice HO_10.out
                  (first | subst eo46 | (injection eo46 with f1_ f2_ f3_; have f4_ := f1_.symm; have f5_ := f3_.symm; clear f1_ f2_ f3_; subst f4_; subst f5_))
                  refine start_ (n := 12) (S := fun w' => w'.cell? (ad568.add ((x11_1).toNat * 4)) = some (.string ((rd_T38 t564 x11_1).f0.f0)) ∧ w'.cell? ⟨(ad568.add ((x11_1).toNat * 4)).block, (ad568.add ((x11_1).toNat * 4)).off + 1, none⟩ = some (.string ((rd_T38 t564 x11_1).f0.f1)) ∧ w'.cell? ⟨(ad568.add ((x11_1).toNat * 4)).block, (ad568.add ((x11_1).toNat * 4)).off + 2, none⟩ = some (.slice A591_2 ((rd_T38 t564 x11_1).f1).length c591_2) ∧ w'.cell? ⟨(ad568.add ((x11_1).toNat * 4)).block, (ad568.add ((x11_1).toNat * 4)).off + 3, none⟩ = some (.slice A591_3 ((rd_T38 t564 x11_1).f2).length c591_3) ∧ w'.cell? (ad592.add ((x13_2).toNat * 2)) = some (.string ((rd_T28 t588 x13_2).f0)) ∧ w'.cell? ⟨(ad592.add ((x13_2).toNat * 2)).block, (ad592.add ((x13_2).toNat * 2)).off + 1, none⟩ = some (.string ((rd_T28 t588 x13_2).f1))) (ds := []) #[false, false, false, false, false, false, false, false, false, false, false, false] (by kernel_rfl) rfl rfl ⟨hx591_0, hx591_1, hx591_2, hx591_3, hx592_0, hx592_1⟩ (fun hHeld => ?_); refine with_tabW chancellaw9_AboveMore.tab17 chancellaw9_AboveMore.bits17 (fun HT_ HW_ => ?_)
                  generalize wr.drew = w45 at HO_7 HO_10 HO_12 HO_570002 BK569 HR587_2 HR587_3 HB HL591_2 HL591_3 HR591_2 HR591_3 hx591_0 hx591_1 hx591_2 hx591_3 hx592_0 hx592_1 hHeld ⊢
                  refine pS_ 0 61 (fa 12 1) HT_ ?_
                  refine pS_ 1 62 (fa 12 3) HT_ ?_
                  refine pS_ 2 63 (fa 12 7) HT_ ?_
                  refine pS_ 3 64 (fa 12 15) HT_ ?_
                  refine pS_ 4 65 (fa 12 31) HT_ ?_
                  refine pS_ 6 67 (fa 12 95) HT_ ?_
                  refine pS_ 7 68 (fa 12 223) HT_ ?_
                  refine pS_ 8 69 (fa 12 479) HT_ ?_
                  refine tS_ 5 66 (fa 12 511) HT_ HW_ hHeld ?_
                  refine tS_ 9 70 (fa 12 1023) HT_ HW_ hHeld ?_
                  refine one_ (i := 10) (N := some 71) #[true, true, true, true, true, true, true, true, true, true, true, false] rfl rfl (one_of HT_.out (by kernel_rfl)) (by decide) (fun K hK => ?_)
                  refine goes_ Try.func16 (by kernel_rfl) rfl #[.slice Ao46 t581.length co46, .agg #[.string ((rd_T38 t564 x11_1).f0.f0), .string ((rd_T38 t564 x11_1).f0.f1)], .agg #[.string ((rd_T28 t588 x13_2).f0), .string ((rd_T28 t588 x13_2).f1)]] (by rfl) rfl rfl gm_ ?_
                  with_reducible refine (above_In.calls _ _ t581 ((rd_T38 t564 x11_1).f0.f0) ((rd_T38 t564 x11_1).f0.f1) ((rd_T28 t588 x13_2).f0) ((rd_T28 t588 x13_2).f1) true _ ?side1 ?side2 A42.out).mono ?_
                  (case side1 => repeat (first | exact (Kd.N_reads' HO_10.out).2.2 | (with_reducible refine Kd.C_alloc ?_ _) | (with_reducible refine Kd.C_drewN ?_ _) | (with_reducible refine Kd.C_drew ?_)))
                  (case side2 => exact (Kd.N_reads' HO_10.out).2.1)
                  rintro e w47 ⟨rfl, hb⟩
                  have HS0_ := (hbc hb (hHeld.1) :)
                  have HS1_ := (hbc hb (hHeld.2.1) :)
                  have HS2_ := (hbc hb (hHeld.2.2.1) :)
                  have HS3_ := (hbc hb (hHeld.2.2.2.1) :)
                  have HS4_ := (hbc hb (hHeld.2.2.2.2.1) :)
                  have HS5_ := (hbc hb (hHeld.2.2.2.2.2) :)
                  refine ⟨_, rfl, ?_⟩
                  replace HO_7 := aZ_ (Kd.N_below (kN HO_7) hb)
                  replace HO_10 := aZ_ (Kd.N_below (kN HO_10) hb)
                  replace HO_12 := aZ_ (Kd.V_below (kV HO_12) hb)
                  replace HO_570002 := aZ_ (Kd.R_below (kR HO_570002) hb)
                  replace HL591_2 := aZ_ (Kd.V_below (kV HL591_2) hb)
                  replace HL591_3 := aZ_ (Kd.V_below (kV HL591_3) hb)
                  replace BK569 := aZ_ (blk_below (g := gb569) (o := .cells #[.string ((rd_T38 t564 t567).f0.f0), .string ((rd_T38 t564 t567).f0.f1), .slice Ao29 y578.length co29, .slice A568_3 ((rd_T38 t564 t567).f2).length c568_3] 38 (0, 0)) (bk BK569) hb)
                  replace HR587_2 := aZ_ (Kd.C_below (kD HR587_2) hb)
                  replace HR587_3 := aZ_ (Kd.C_below (kD HR587_3) hb)
                  replace HR591_2 := aZ_ (Kd.C_below (kD HR591_2) hb)
                  replace HR591_3 := aZ_ (Kd.C_below (kD HR591_3) hb)
                  replace HB := aZ_ (below_step (bl1 HB GE569) hb)
                  (try clear hb)
                  (try clear hb2)
                  (try clear hk)
                  (try clear hi)
                  refine hK.out _ _ ⟨HS0_, HS1_, HS2_, HS3_, HS4_, HS5_⟩ (fun hHeld => ?_)
                  clear hK K
                  refine norm_ (a' := ?_) ?_ ?_
                  rotate_left
                  ·
                   show Act.put _ (some 71) _ = _
                   simp only [Act.put, List.setIfInBounds_toArray, List.set_cons_zero, List.set_cons_succ, i64_w, i32_w]
                   rfl
                  refine pS_ 11 72 (fa 12 4095) HT_ ?_
                  refine done_ (done_of HT_.out (by kernel_rfl)) ?_
                  try go_wp2
                  go_roundg k2
                  case measure => have := HK1.out; have := HK2.out; omega
                  case rel => exact ⟨(wrap64 (x13_2 + 1)), rf_, H', ⟨by have := HK1.out; have := HK2.out; omega⟩, ⟨kN HO_7⟩, ⟨kN HO_10⟩, ⟨kV HO_12⟩, ⟨kR HO_570002⟩, ⟨bk BK569⟩, ⟨kD HR587_2⟩, ⟨kD HR587_3⟩, ⟨bl1 HB GE569⟩⟩
                 ·
                  replace c43 := Bool.eq_false_iff.mpr c43
                  subst c43
                  have H1 : (some false) = some r := by rw [if_neg (show ¬ (false = true) by decide)] at H; exact H
                  clear H
                  have H := H1
                  clear H1
                  obtain rfl := Option.some.inj H
                  obtain ⟨Ao48, co48, eo48⟩ := Kd.V_slice HO_12.out
                  subst eo48
                  try go_wp2
                  replace HO_7 := aZ_ (Kd.N_drew HO_7.out)
                  replace HO_10 := aZ_ (Kd.N_drew HO_10.out)
                  replace HO_12 := aZ_ (Kd.V_drew HO_12.out)
                  replace HO_570002 := aZ_ (Kd.R_drew HO_570002.out)
                  replace BK569 := aZ_ (blk_drew BK569.out)
                  replace HR587_2 := aZ_ (Kd.C_drew HR587_2.out)
                  replace HR587_3 := aZ_ (Kd.C_drew HR587_3.out)
                  replace HB := aZ_ (below_drew1 HB.out)
                  have p591 : 0 ≤ (x11_1 : Int) := of_decide_eq_true asm_
                  have q591 : x11_1 < (t564.length : Int) := of_decide_eq_true asm_
                  obtain ⟨ad591, A591_2, c591_2, A591_3, c591_3, e591, hx591_0, hx591_1, hx591_2, hx591_3, hl591_2, hi591_2, hl591_3, hi591_3⟩ := at_T38 (Kd.N_reads' HO_7.out).2.2 x11_1 p591 q591
                  obtain rfl : ad568 = ad591 := (by injection e591)
                  obtain ⟨ce591, hce591, hMe591, hcc591⟩ := Kd.N_get HO_7.out z38 x11_1 p591 (by first | exact q591 | exact of_decide_eq_true asm_ | (have e_ := (Kd.N_reads' HO_7.out).1; omega))
                  obtain ⟨ua591_2, uc591_2, ua591_3, uc591_3, rfl, ul591_2, ge591_2, ul591_3, ge591_3⟩ := k38_openF hMe591
                  have hv591_2 := hcc591 2 _ rfl
                  rw [add_field _ _ 2 (by omega)] at hv591_2
                  replace hv591_2 := Option.some.inj (hv591_2.symm.trans hx591_2)
                  injection hv591_2 with hva_ hvn_ hvc_
                  rw [hva_] at ge591_2
                  rw [hvc_] at ul591_2
                  have HL591_2 := aZ_ (show Kd.V k28 28 _ w.heap.size _ _ ((rd_T38 t564 x11_1).f1) from Kd.V_mk ul591_2 ge591_2)
                  clear hva_ hvn_ hvc_ ge591_2 ul591_2
                  have hv591_3 := hcc591 3 _ rfl
                  rw [add_field _ _ 3 (by omega)] at hv591_3
                  replace hv591_3 := Option.some.inj (hv591_3.symm.trans hx591_3)
                  injection hv591_3 with hva_ hvn_ hvc_
                  rw [hva_] at ge591_3
                  rw [hvc_] at ul591_3
                  have HL591_3 := aZ_ (show Kd.V k58 58 _ w.heap.size _ _ ((rd_T38 t564 x11_1).f2) from Kd.V_mk ul591_3 ge591_3)
                  clear hva_ hvn_ hvc_ ge591_3 ul591_3
                  clear hcc591 hce591
                  have HR591_2 := aZ_ hi591_2
                  have HC591_2 := aZ_ hl591_2
                  clear hi591_2 hl591_2
                  have HR591_3 := aZ_ hi591_3
                  have HC591_3 := aZ_ hl591_3
                  clear hi591_3 hl591_3
                  replace p591 := eq_true p591
                  replace q591 := eq_true q591
                  have p592 : 0 ≤ (x13_2 : Int) := of_decide_eq_true asm_
                  have q592 : x13_2 < (t588.length : Int) := of_decide_eq_true asm_
                  obtain ⟨ad592, e592, hx592_0, hx592_1⟩ := at_T28 (Kd.V_reads' HO_12.out).2.2 x13_2 p592 q592
                  cases e592
                  replace p592 := eq_true p592
                  replace q592 := eq_true q592
                  obtain ⟨Ao50, co50, eo50⟩ := Kd.N_slice HO_10.out
                  (first | subst eo50 | (injection eo50 with f1_ f2_ f3_; have f4_ := f1_.symm; have f5_ := f3_.symm; clear f1_ f2_ f3_; subst f4_; subst f5_))
                  refine start_ (n := 12) (S := fun w' => w'.cell? (ad568.add ((x11_1).toNat * 4)) = some (.string ((rd_T38 t564 x11_1).f0.f0)) ∧ w'.cell? ⟨(ad568.add ((x11_1).toNat * 4)).block, (ad568.add ((x11_1).toNat * 4)).off + 1, none⟩ = some (.string ((rd_T38 t564 x11_1).f0.f1)) ∧ w'.cell? ⟨(ad568.add ((x11_1).toNat * 4)).block, (ad568.add ((x11_1).toNat * 4)).off + 2, none⟩ = some (.slice A591_2 ((rd_T38 t564 x11_1).f1).length c591_2) ∧ w'.cell? ⟨(ad568.add ((x11_1).toNat * 4)).block, (ad568.add ((x11_1).toNat * 4)).off + 3, none⟩ = some (.slice A591_3 ((rd_T38 t564 x11_1).f2).length c591_3) ∧ w'.cell? (ad592.add ((x13_2).toNat * 2)) = some (.string ((rd_T28 t588 x13_2).f0)) ∧ w'.cell? ⟨(ad592.add ((x13_2).toNat * 2)).block, (ad592.add ((x13_2).toNat * 2)).off + 1, none⟩ = some (.string ((rd_T28 t588 x13_2).f1))) (ds := []) #[false, false, false, false, false, false, false, false, false, false, false, false] (by kernel_rfl) rfl rfl ⟨hx591_0, hx591_1, hx591_2, hx591_3, hx592_0, hx592_1⟩ (fun hHeld => ?_); refine with_tabW chancellaw9_AboveMore.tab17 chancellaw9_AboveMore.bits17 (fun HT_ HW_ => ?_)
                  generalize wr.drew = w49 at HO_7 HO_10 HO_12 HO_570002 BK569 HR587_2 HR587_3 HB HL591_2 HL591_3 HR591_2 HR591_3 hx591_0 hx591_1 hx591_2 hx591_3 hx592_0 hx592_1 hHeld ⊢
                  refine pS_ 0 61 (fa 12 1) HT_ ?_
                  refine pS_ 1 62 (fa 12 3) HT_ ?_
                  refine pS_ 2 63 (fa 12 7) HT_ ?_
                  refine pS_ 3 64 (fa 12 15) HT_ ?_
                  refine pS_ 4 65 (fa 12 31) HT_ ?_
                  refine pS_ 6 67 (fa 12 95) HT_ ?_
                  refine pS_ 7 68 (fa 12 223) HT_ ?_
                  refine pS_ 8 69 (fa 12 479) HT_ ?_
                  refine tS_ 5 66 (fa 12 511) HT_ HW_ hHeld ?_
                  refine tS_ 9 70 (fa 12 1023) HT_ HW_ hHeld ?_
                  refine one_ (i := 10) (N := some 71) #[true, true, true, true, true, true, true, true, true, true, true, false] rfl rfl (one_of HT_.out (by kernel_rfl)) (by decide) (fun K hK => ?_)
                  refine goes_ Try.func16 (by kernel_rfl) rfl #[.slice Ao50 t581.length co50, .agg #[.string ((rd_T38 t564 x11_1).f0.f0), .string ((rd_T38 t564 x11_1).f0.f1)], .agg #[.string ((rd_T28 t588 x13_2).f0), .string ((rd_T28 t588 x13_2).f1)]] (by rfl) rfl rfl gm_ ?_
                  with_reducible refine (above_In.calls _ _ t581 ((rd_T38 t564 x11_1).f0.f0) ((rd_T38 t564 x11_1).f0.f1) ((rd_T28 t588 x13_2).f0) ((rd_T28 t588 x13_2).f1) false _ ?side1 ?side2 A42.out).mono ?_
                  (case side1 => repeat (first | exact (Kd.N_reads' HO_10.out).2.2 | (with_reducible refine Kd.C_alloc ?_ _) | (with_reducible refine Kd.C_drewN ?_ _) | (with_reducible refine Kd.C_drew ?_)))
                  (case side2 => exact (Kd.N_reads' HO_10.out).2.1)
                  rintro e w51 ⟨rfl, hb⟩
                  have HS0_ := (hbc hb (hHeld.1) :)
                  have HS1_ := (hbc hb (hHeld.2.1) :)
                  have HS2_ := (hbc hb (hHeld.2.2.1) :)
                  have HS3_ := (hbc hb (hHeld.2.2.2.1) :)
                  have HS4_ := (hbc hb (hHeld.2.2.2.2.1) :)
                  have HS5_ := (hbc hb (hHeld.2.2.2.2.2) :)
                  refine ⟨_, rfl, ?_⟩
                  replace HO_7 := aZ_ (Kd.N_below (kN HO_7) hb)
                  replace HO_10 := aZ_ (Kd.N_below (kN HO_10) hb)
                  replace HO_12 := aZ_ (Kd.V_below (kV HO_12) hb)
                  replace HO_570002 := aZ_ (Kd.R_below (kR HO_570002) hb)
                  replace HL591_2 := aZ_ (Kd.V_below (kV HL591_2) hb)
                  replace HL591_3 := aZ_ (Kd.V_below (kV HL591_3) hb)
                  replace BK569 := aZ_ (blk_below (g := gb569) (o := .cells #[.string ((rd_T38 t564 t567).f0.f0), .string ((rd_T38 t564 t567).f0.f1), .slice Ao29 y578.length co29, .slice A568_3 ((rd_T38 t564 t567).f2).length c568_3] 38 (0, 0)) (bk BK569) hb)
                  replace HR587_2 := aZ_ (Kd.C_below (kD HR587_2) hb)
                  replace HR587_3 := aZ_ (Kd.C_below (kD HR587_3) hb)
                  replace HR591_2 := aZ_ (Kd.C_below (kD HR591_2) hb)
                  replace HR591_3 := aZ_ (Kd.C_below (kD HR591_3) hb)
                  replace HB := aZ_ (below_step (bl1 HB GE569) hb)
                  (try clear hb)
                  (try clear hb2)
                  (try clear hk)
                  (try clear hi)
                  refine hK.out _ _ ⟨HS0_, HS1_, HS2_, HS3_, HS4_, HS5_⟩ (fun hHeld => ?_)
                  clear hK K
                  refine norm_ (a' := ?_) ?_ ?_
                  rotate_left
                  ·
                   show Act.put _ (some 71) _ = _
                   simp only [Act.put, List.setIfInBounds_toArray, List.set_cons_zero, List.set_cons_succ, i64_w, i32_w]
                   rfl
                  refine pS_ 11 72 (fa 12 4095) HT_ ?_
                  refine done_ (done_of HT_.out (by kernel_rfl)) ?_
                  try go_wp2
                  go_ret
                  exact ⟨by first | rfl | (simp [errW_none, errW_some] <;> rfl) | (simp [*, errW_none, errW_some] <;> rfl), bl1 HB GE569⟩
                ·
                 rw [if_neg c41] at H
                 exact absurd H (by simp)
               ·
                rw [if_neg c40] at H
                exact absurd H (by simp)
              ·
               rw [if_neg c39] at H
               exact absurd H (by simp)
             ·
              rw [if_neg c38] at H
              have c38b0 : decide (x13_2 < (t588.length : Int)) = false := decide_eq_false c38
              clear c38
              have H' := aZ_ H
              clear H
              obtain ⟨Ao52, co52, eo52⟩ := Kd.V_slice HO_12.out
              subst eo52
              go_wp2
              go_roundg k2
              case measure => have := HK1.out; have := HK2.out; omega
              case rel => exact ⟨(wrap64 (x11_1 + 1)), rf_, H', ⟨by have := HK1.out; have := HK2.out; omega⟩, ⟨kN HO_7⟩, ⟨kN HO_10⟩, ⟨kR HO_570002⟩, ⟨bk BK569⟩, ⟨bl1 HB GE569⟩⟩
          ·
           rw [if_neg c35] at H
           exact absurd H (by simp)
         ·
          rw [if_neg c34] at H
          have c34b0 : decide (x11_1 < (t564.length : Int)) = false := decide_eq_false c34
          clear c34
          replace H := Option.bind_eq_some_iff.mp H
          obtain ⟨⟨t584, t585⟩, A530, H⟩ := H
          replace H : ((above_In.f t581 ((rd_T38 t564 t567).f0.f0) ((rd_T38 t564 t567).f0.f1) t584 t585).bind fun t586 => (some t586)) = some r := H
          have A53 := aZ_ A530
          clear A530
          replace H := Option.bind_eq_some_iff.mp H
          obtain ⟨t586, A540, H⟩ := H
          replace H : (some t586) = some r := H
          have A54 := aZ_ A540
          clear A540
          obtain rfl := Option.some.inj H
          try go_wp2
          replace HO_7 := aZ_ (Kd.N_drew HO_7.out)
          replace HO_10 := aZ_ (Kd.N_drew HO_10.out)
          replace HO_570002 := aZ_ (Kd.R_drew HO_570002.out)
          replace BK569 := aZ_ (blk_drew BK569.out)
          replace HB := aZ_ (below_drew1 HB.out)
          refine start_ (n := 8) (S := fun w' => w'.cell? ⟨gb569, 0, none⟩ = some (.string ((rd_T38 t564 t567).f0.f0)) ∧ w'.cell? ⟨gb569, 1, none⟩ = some (.string ((rd_T38 t564 t567).f0.f1)) ∧ w'.cell? ⟨gb569, 2, none⟩ = some (.slice Ao29 y578.length co29) ∧ w'.cell? ⟨gb569, 3, none⟩ = some (.slice A568_3 ((rd_T38 t564 t567).f2).length c568_3)) (ds := []) #[false, false, false, false, false, false, false, false] (by kernel_rfl) rfl rfl ⟨(blk_cell BK569.out 0).trans rfl, (blk_cell BK569.out 1).trans rfl, (blk_cell BK569.out 2).trans rfl, (blk_cell BK569.out 3).trans rfl⟩ (fun hHeld => ?_); refine with_tabW chancellaw9_AboveMore.tab19 chancellaw9_AboveMore.bits19 (fun HT_ HW_ => ?_)
          generalize wr.drew = w55 at HO_7 HO_10 HO_570002 BK569 HB hHeld ⊢
          refine pS_ 0 73 (fa 8 1) HT_ ?_
          refine pS_ 1 74 (fa 8 3) HT_ ?_
          refine pS_ 3 76 (fa 8 11) HT_ ?_
          refine pS_ 4 77 (fa 8 27) HT_ ?_
          refine tS_ 2 75 (fa 8 31) HT_ HW_ hHeld ?_
          refine one_ (i := 5) (N := some 78) #[true, true, true, true, true, true, false, false] rfl rfl (one_of HT_.out (by kernel_rfl)) (by decide) (fun K hK => ?_)
          refine goes_ Try.func15 (by kernel_rfl) rfl #[.slice (some ad568) t564.length coG, .int .i64 a2] (by rfl) rfl rfl gm_ ?_
          with_reducible refine (chancellaw9_pick.calls k1 _ _ t564 a2 t584 t585 _ ?side1 ?side2 A53.out).mono ?_
          (case side1 => repeat (first | exact (Kd.N_reads' HO_7.out).2.2 | (with_reducible refine Kd.C_alloc ?_ _) | (with_reducible refine Kd.C_drewN ?_ _) | (with_reducible refine Kd.C_drew ?_)))
          (case side2 => exact (Kd.N_reads' HO_7.out).2.1)
          rintro e w56 ⟨rfl, hb⟩
          refine ⟨_, rfl, ?_⟩
          replace HO_7 := aZ_ (Kd.N_below (kN HO_7) hb)
          replace HO_10 := aZ_ (Kd.N_below (kN HO_10) hb)
          replace HO_570002 := aZ_ (Kd.R_below (kR HO_570002) hb)
          replace BK569 := aZ_ (blk_below (g := gb569) (o := .cells #[.string ((rd_T38 t564 t567).f0.f0), .string ((rd_T38 t564 t567).f0.f1), .slice Ao29 y578.length co29, .slice A568_3 ((rd_T38 t564 t567).f2).length c568_3] 38 (0, 0)) (bk BK569) hb)
          replace HB := aZ_ (below_step (bl1 HB GE569) hb)
          (try clear hb)
          (try clear hb2)
          (try clear hk)
          (try clear hi)
          obtain ⟨Ao57, co57, eo57⟩ := Kd.N_slice HO_10.out
          (first | subst eo57 | (injection eo57 with f1_ f2_ f3_; have f4_ := f1_.symm; have f5_ := f3_.symm; clear f1_ f2_ f3_; subst f4_; subst f5_))
          refine hK.out _ _ ⟨(blk_cell BK569.out 0).trans rfl, (blk_cell BK569.out 1).trans rfl, (blk_cell BK569.out 2).trans rfl, (blk_cell BK569.out 3).trans rfl⟩ (fun hHeld => ?_)
          clear hK K
          refine norm_ (a' := ?_) ?_ ?_
          rotate_left
          ·
           show Act.put _ (some 78) _ = _
           simp only [Act.put, List.setIfInBounds_toArray, List.set_cons_zero, List.set_cons_succ, i64_w, i32_w]
           rfl
          refine one_ (i := 6) (N := some 79) #[true, true, true, true, true, true, true, false] rfl rfl (one_of HT_.out (by kernel_rfl)) (by decide) (fun K hK => ?_)
          refine goes_ Try.func16 (by kernel_rfl) rfl #[.slice Ao57 t581.length co57, .agg #[.string ((rd_T38 t564 t567).f0.f0), .string ((rd_T38 t564 t567).f0.f1)], .agg #[.string t584, .string t585]] (by rfl) rfl rfl gm_ ?_
          with_reducible refine (above_In.calls _ _ t581 ((rd_T38 t564 t567).f0.f0) ((rd_T38 t564 t567).f0.f1) t584 t585 t586 _ ?side1 ?side2 A54.out).mono ?_
          (case side1 => repeat (first | exact (Kd.N_reads' HO_10.out).2.2 | (with_reducible refine Kd.C_alloc ?_ _) | (with_reducible refine Kd.C_drewN ?_ _) | (with_reducible refine Kd.C_drew ?_)))
          (case side2 => exact (Kd.N_reads' HO_10.out).2.1)
          rintro e w58 ⟨rfl, hb⟩
          refine ⟨_, rfl, ?_⟩
          replace HO_7 := aZ_ (Kd.N_below (kN HO_7) hb)
          replace HO_10 := aZ_ (Kd.N_below (kN HO_10) hb)
          replace HO_570002 := aZ_ (Kd.R_below (kR HO_570002) hb)
          replace BK569 := aZ_ (blk_below (g := gb569) (o := .cells #[.string ((rd_T38 t564 t567).f0.f0), .string ((rd_T38 t564 t567).f0.f1), .slice Ao29 y578.length co29, .slice A568_3 ((rd_T38 t564 t567).f2).length c568_3] 38 (0, 0)) (bk BK569) hb)
          replace HB := aZ_ (below_step (bl1 HB GE569) hb)
          (try clear hb)
          (try clear hb2)
          (try clear hk)
          (try clear hi)
          refine hK.out _ _ ⟨(blk_cell BK569.out 0).trans rfl, (blk_cell BK569.out 1).trans rfl, (blk_cell BK569.out 2).trans rfl, (blk_cell BK569.out 3).trans rfl⟩ (fun hHeld => ?_)
          clear hK K
          refine norm_ (a' := ?_) ?_ ?_
          rotate_left
          ·
           show Act.put _ (some 79) _ = _
           simp only [Act.put, List.setIfInBounds_toArray, List.set_cons_zero, List.set_cons_succ, i64_w, i32_w]
           rfl
          refine pS_ 7 6 (fa 8 255) HT_ ?_
          refine done_ (done_of HT_.out (by kernel_rfl)) ?_
          try go_wp2
          go_ret
          exact ⟨by first | rfl | (simp [errW_none, errW_some] <;> rfl) | (simp [*, errW_none, errW_some] <;> rfl), bl1 HB GE569⟩
      ·
       rw [if_neg c16] at H
       exact absurd H (by simp)
     ·
      rw [if_neg c14] at H
      exact absurd H (by simp)
    ·
     rw [if_neg c13] at H
     exact absurd H (by simp)
   ·
    rw [if_neg c12] at H
    exact absurd H (by simp)
 ·
  exact absurd trivial c5
end Go.Proofs.Ytelibndkkokadaa.GB
