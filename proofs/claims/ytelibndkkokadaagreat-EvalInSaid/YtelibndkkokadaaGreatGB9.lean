-- Written by wip/tools/gprint.py over the kit's printer.
import Derived.Test.YtelibndkkokadaaGreatGB0
import Derived.Test.YtelibndkkokadaaGreatGB1
import Derived.Test.YtelibndkkokadaaGreatGBi
import Derived.Test.YtelibndkkokadaaGreatJz
import Derived.Test.YtelibndkkokadaaGreatGB8
import Derived.Test.YtelibndkkokadaaGreatJy
import Derived.Test.YtelibndkkokadaaGreatSqz
namespace Go.Proofs.YtelibndkkokadaaGreat.GB
open Go.RowKit Go.Proofs.YtelibndkkokadaaGreatW.PrintWords Go.Proofs.YtelibndkkokadaaGreatW.PrintLast Go.Proofs.YtelibndkkokadaaGreat.HandV Go.Proofs.YtelibndkkokadaaGreatW.PrintMore
attribute [local go_sem] max2_int min2_int max_two min_two max_three min_three max_four min_four   -- for this text's walks alone
set_option linter.unusedVariables false
set_option linter.unusedSimpArgs false

attribute [local go_sem high] eqA28
-- BREAK
/-! ### chancelref9_Above: function 20, given -/
/-- All that is above one. -/
def chancelref9_Above.f (l0 : List S32) (a1_0 a1_1 : ByteArray) : Option (List S28) :=
 if GA.okL l0 = true then some (GA.refF l0 ⟨a1_0, a1_1⟩) else none
theorem chancelref9_Above.calls (A0 : Option Addr) (c0 : Nat) (l0 : List S32) (a1_0 : ByteArray) (a1_1 : ByteArray) (r : List S28) (w : World) (hr0 : Kd.C k32 w A0 l0.length l0) (hc0 : l0.length ≤ c0) (h : chancelref9_Above.f l0 a1_0 a1_1 = some r) :
  Calls Tryz.prog 20 #[.slice A0 l0.length c0, .agg #[.string a1_0, .string a1_1]] w fun e w' => ∃ v0_ : Value, e = .returned (v0_) ∧ Kd.V k28 28 w' w.heap.size (fun k_ => w.heap.size ≤ k_) v0_ r ∧ Below w.heap.size w w' := by
 unfold chancelref9_Above.f at h
 by_cases hs : GA.okL l0 = true
 ·
  rw [if_pos hs] at h
  obtain rfl := Option.some.inj h
  exact GA.refAbove_calls l0 hs ⟨a1_0, a1_1⟩ A0 c0 w hc0 hr0
 ·
  rw [if_neg hs] at h
  exact absurd h (by simp)

/-! ### chancelref9_In: function 9 -/
def chancelref9_In.f (k : Nat) (l0 : List (S32)) (a1_0 : ByteArray) (a1_1 : ByteArray) (a2_0 : ByteArray) (a2_1 : ByteArray) : Option (Bool) := if (a1_0.toList == a2_0.toList && (a1_1.toList == a2_1.toList)) = true then (some true) else ((chancelref9_Above.f l0 a1_0 a1_1).bind fun t324 => ((chancelref9_has.f k t324 a2_0 a2_1).bind fun t327 => (some t327)))
theorem chancelref9_In.mono : ∀ a0 a1 a2 a3 a4 k, LeO (chancelref9_In.f k a0 a1 a2 a3 a4) (chancelref9_In.f (k + 1) a0 a1 a2 a3 a4) := by
 intro a0 a1 a2 a3 a4 k
 unfold chancelref9_In.f
 repeat' first
   | (with_reducible exact chancelref9_has.mono _ _ _ _)
   | (with_reducible exact LeO.refl _)
   | (with_reducible exact LeO.none _)
   | (with_reducible refine LeO.ite ?_ ?_)
   | (with_reducible refine LeO.bind ?_ (fun _ => ?_))
   | exact chancelref9_has.mono _ _ _ _
   | exact LeO.none _
   | refine LeO.ite ?_ ?_
   | refine LeO.bind ?_ (fun _ => ?_)
def chancelref9_In.T1 : Bool × List (List Nat × List Nat) := (true, [([], []), ([], []), ([0, 1], [0, 1]), ([2], [2]), ([3], [3]), ([3], [3]), ([4, 5, 3, 3], [3, 4, 5]), ([3], [3]), ([6, 7, 6, 3], [3, 6, 7]), ([3, 8], [3, 8]), ([9, 8, 0, 1, 2, 3, 4, 5, 6, 7, 8, 9], [9])])
def chancelref9_In.B1 : List Nat := [0, 0, 3, 7, 15, 15, 63, 15, 255, 511, 1023]
theorem chancelref9_In.tab1 : rtab .any (opsOf Tryz.f9 1) = chancelref9_In.T1 := by kernel_rfl
theorem chancelref9_In.bits1 : waitsOk chancelref9_In.T1.2 chancelref9_In.B1 = true := by kernel_rfl
set_option maxHeartbeats 8000000 in
set_option maxRecDepth 100000 in
theorem chancelref9_In.calls (k : Nat) (A0 : Option Addr) (c0 : Nat) (l0 : List (S32)) (a1_0 : ByteArray) (a1_1 : ByteArray) (a2_0 : ByteArray) (a2_1 : ByteArray) (r : Bool) (w : World) (hr0 : Kd.C k32 w A0 l0.length l0) (hc0 : l0.length ≤ c0) (h : chancelref9_In.f k l0 a1_0 a1_1 a2_0 a2_1 = some r) :
  Calls Tryz.prog 9 #[.slice A0 l0.length c0, .agg #[.string a1_0, .string a1_1], .agg #[.string a2_0, .string a2_1]] w fun e w' => e = .returned (.bool r) ∧ Below w.heap.size w w' := by
 have hu28 := Tryz.underlying28
 have HR0 := aZ_ hr0
 have HC0 := aZ_ hc0
 clear hr0 hc0
 have HB := aZ_ (Below.refl w.heap.size w)
 have H : (if (a1_0.toList == a2_0.toList && (a1_1.toList == a2_1.toList)) = true then (some true) else ((chancelref9_Above.f l0 a1_0 a1_1).bind fun t324 => ((chancelref9_has.f k t324 a2_0 a2_1).bind fun t327 => (some t327)))) = some r := h
 clear h
 by_cases c4 : (a1_0.toList == a2_0.toList && (a1_1.toList == a2_1.toList)) = true
 ·
  rw [if_pos c4] at H
  have c4b0 : (a1_0.toList == a2_0.toList && (a1_1.toList == a2_1.toList)) = true := c4
  (try (have c4b1 : decide (a1_0.toList = a2_0.toList && (a1_1.toList == a2_1.toList)) = true := by simpa using c4))
  (try (have c4b2 : (a1_0.toList == a2_0.toList && (a1_1.toList == a2_1.toList)) = true := by simpa using c4))
  clear c4
  obtain rfl := Option.some.inj H
  go_enter Tryz.func9, Tryz.ntmps9
  try go_wp2_with (first | ((with_reducible refine gate_dst (N := 4) rfl ?_); refine bxE 4 #[.string a1_0, .string a1_1] 28 ?_; intro gb322 hg w5 hbox hb; have BK322 := aZ_ (hbox); have GW322 := aZ_ ((by rw [hg]; exact (below_size (bl HB)) : w.heap.size ≤ gb322)); have GE322 := aZ_ ((by rw [hg]; exact (below_size (bl HB)) : w.heap.size ≤ gb322)); replace HB := aZ_ (below_step (bl HB) hb); clear hb hbox hg) | ((with_reducible refine gate_dst (N := 5) rfl ?_); refine bxE 5 #[.string a2_0, .string a2_1] 28 ?_; intro gb323 hg w6 hbox hb; have BK323 := aZ_ (hbox); have GW323 := aZ_ ((by rw [hg]; exact (below_size (bl1 HB GE322)) : w.heap.size ≤ gb323)); have GE323 := aZ_ ((by rw [hg]; exact (below_size (bl1 HB GE322)) : w.heap.size ≤ gb323)); replace HB := aZ_ (below_step (bl1 HB GE322) hb); have NB322_323 := aZ_ ((by rw [hg]; exact Nat.ne_of_lt (blk_lt (g := gb322) (o := .cells #[.string a1_0, .string a1_1] 28 (0, 0)) (bk BK322)) : gb322 ≠ gb323)); have NB323_322 := aZ_ ((by rw [hg]; exact Nat.ne_of_gt (blk_lt (g := gb322) (o := .cells #[.string a1_0, .string a1_1] 28 (0, 0)) (bk BK322)) : gb323 ≠ gb322)); replace BK322 := aZ_ (blk_below (g := gb322) (o := .cells #[.string a1_0, .string a1_1] 28 (0, 0)) (bk BK322) hb); clear hb hbox hg))
  replace BK322 := aZ_ (blk_drew BK322.out)
  replace BK323 := aZ_ (blk_drew BK323.out)
  replace HB := aZ_ (below_drew1 HB.out)
  refine start_ (n := 11) (S := fun w' => w'.cell? ⟨gb322, 0, none⟩ = some (.string a1_0) ∧ w'.cell? ⟨gb322, 1, none⟩ = some (.string a1_1) ∧ w'.cell? ⟨gb323, 0, none⟩ = some (.string a2_0) ∧ w'.cell? ⟨gb323, 1, none⟩ = some (.string a2_1)) (ds := []) #[false, false, false, false, false, false, false, false, false, false, false] (by kernel_rfl) rfl rfl ⟨(blk_cell BK322.out 0).trans rfl, (blk_cell BK322.out 1).trans rfl, (blk_cell BK323.out 0).trans rfl, (blk_cell BK323.out 1).trans rfl⟩ (fun hHeld => ?_); refine with_tabW chancelref9_In.tab1 chancelref9_In.bits1 (fun HT_ HW_ => ?_)
  generalize w6.drew = w7 at BK322 BK323 HB hHeld ⊢
  refine tS_ 0 7 (fa 11 1) HT_ HW_ hHeld ?_
  refine tS_ 1 8 (fa 11 3) HT_ HW_ hHeld ?_
  refine pS_ 2 9 (fa 11 7) HT_ ?_
  refine pS_ 3 10 (fa 11 15) HT_ ?_
  refine pU_ 4 11 (fa 11 31) HT_ ?_
  refine pU_ 5 12 (fa 11 63) HT_ ?_
  refine pU_ 6 13 (fa 11 127) HT_ ?_
  refine pU_ 7 14 (fa 11 255) HT_ ?_
  refine pU_ 8 15 (fa 11 511) HT_ ?_
  refine pS_ 9 16 (fa 11 1023) HT_ ?_
  refine pS_ 10 6 (fa 11 2047) HT_ ?_
  refine done_ (done_of HT_.out (by kernel_rfl)) ?_
  try go_wp2
  go_ret
  exact ⟨by first | rfl | (simp [errW_none, errW_some] <;> rfl) | (simp [*, errW_none, errW_some] <;> rfl), bl2 HB GE322 GE323⟩
 ·
  rw [if_neg c4] at H
  have c4b0 : (a1_0.toList == a2_0.toList && (a1_1.toList == a2_1.toList)) = false := by simpa using c4
  (try (have c4b1 : decide (a1_0.toList = a2_0.toList && (a1_1.toList == a2_1.toList)) = false := by simpa using c4))
  (try (have c4b2 : (a1_0.toList == a2_0.toList && (a1_1.toList == a2_1.toList)) = false := by simpa using c4))
  (try (have c4b3 : ¬ (a1_0.toList = a2_0.toList && (a1_1.toList == a2_1.toList)) := by simpa using c4))
  clear c4
  replace H := Option.bind_eq_some_iff.mp H
  obtain ⟨t324, A80, H⟩ := H
  replace H : ((chancelref9_has.f k t324 a2_0 a2_1).bind fun t327 => (some t327)) = some r := H
  have A8 := aZ_ A80
  clear A80
  replace H := Option.bind_eq_some_iff.mp H
  obtain ⟨t327, A90, H⟩ := H
  replace H : (some t327) = some r := H
  have A9 := aZ_ A90
  clear A90
  obtain rfl := Option.some.inj H
  go_enter Tryz.func9, Tryz.ntmps9
  try go_wp2_with (first | ((with_reducible refine gate_dst (N := 4) rfl ?_); refine bxE 4 #[.string a1_0, .string a1_1] 28 ?_; intro gb322 hg w10 hbox hb; have BK322 := aZ_ (hbox); have GW322 := aZ_ ((by rw [hg]; exact (below_size (bl HB)) : w.heap.size ≤ gb322)); have GE322 := aZ_ ((by rw [hg]; exact (below_size (bl HB)) : w.heap.size ≤ gb322)); replace HB := aZ_ (below_step (bl HB) hb); clear hb hbox hg) | ((with_reducible refine gate_dst (N := 5) rfl ?_); refine bxE 5 #[.string a2_0, .string a2_1] 28 ?_; intro gb323 hg w11 hbox hb; have BK323 := aZ_ (hbox); have GW323 := aZ_ ((by rw [hg]; exact (below_size (bl1 HB GE322)) : w.heap.size ≤ gb323)); have GE323 := aZ_ ((by rw [hg]; exact (below_size (bl1 HB GE322)) : w.heap.size ≤ gb323)); replace HB := aZ_ (below_step (bl1 HB GE322) hb); have NB322_323 := aZ_ ((by rw [hg]; exact Nat.ne_of_lt (blk_lt (g := gb322) (o := .cells #[.string a1_0, .string a1_1] 28 (0, 0)) (bk BK322)) : gb322 ≠ gb323)); have NB323_322 := aZ_ ((by rw [hg]; exact Nat.ne_of_gt (blk_lt (g := gb322) (o := .cells #[.string a1_0, .string a1_1] 28 (0, 0)) (bk BK322)) : gb323 ≠ gb322)); replace BK322 := aZ_ (blk_below (g := gb322) (o := .cells #[.string a1_0, .string a1_1] 28 (0, 0)) (bk BK322) hb); clear hb hbox hg))
  replace BK322 := aZ_ (blk_drew BK322.out)
  replace BK323 := aZ_ (blk_drew BK323.out)
  replace HB := aZ_ (below_drew1 HB.out)
  refine start_ (n := 11) (S := fun w' => w'.cell? ⟨gb322, 0, none⟩ = some (.string a1_0) ∧ w'.cell? ⟨gb322, 1, none⟩ = some (.string a1_1) ∧ w'.cell? ⟨gb323, 0, none⟩ = some (.string a2_0) ∧ w'.cell? ⟨gb323, 1, none⟩ = some (.string a2_1)) (ds := []) #[false, false, false, false, false, false, false, false, false, false, false] (by kernel_rfl) rfl rfl ⟨(blk_cell BK322.out 0).trans rfl, (blk_cell BK322.out 1).trans rfl, (blk_cell BK323.out 0).trans rfl, (blk_cell BK323.out 1).trans rfl⟩ (fun hHeld => ?_); refine with_tabW chancelref9_In.tab1 chancelref9_In.bits1 (fun HT_ HW_ => ?_)
  generalize w11.drew = w12 at BK322 BK323 HB hHeld ⊢
  refine tS_ 0 7 (fa 11 1) HT_ HW_ hHeld ?_
  refine tS_ 1 8 (fa 11 3) HT_ HW_ hHeld ?_
  refine pS_ 2 9 (fa 11 7) HT_ ?_
  refine pS_ 3 10 (fa 11 15) HT_ ?_
  refine pS_ 4 11 (fa 11 31) HT_ ?_
  refine tS_ 5 12 (fa 11 63) HT_ HW_ hHeld ?_
  refine tS_ 7 14 (fa 11 191) HT_ HW_ hHeld ?_
  refine one_ (i := 6) (N := some 13) #[true, true, true, true, true, true, true, true, false, false, false] rfl rfl (one_of HT_.out (by kernel_rfl)) (by decide) (fun K hK => ?_)
  refine goes_ Tryz.func20 (by kernel_rfl) rfl #[.slice A0 l0.length c0, .agg #[.string a1_0, .string a1_1]] (by rfl) rfl rfl gm_ ?_
  with_reducible refine (chancelref9_Above.calls _ _ l0 a1_0 a1_1 t324 _ ?side1 ?side2 A8.out).mono ?_
  (case side1 => exact kC (Kd.C_below HR0.out HB.out))
  (case side2 => exact HC0.out)
  rintro e w13 ⟨v325, rfl, ho0, hb⟩
  refine ⟨_, rfl, ?_⟩
  have HO326 := aZ_ (Kd.V_lower (Kd.V_mono (ok' := fun k_ => k_ ≠ gb322 ∧ k_ ≠ gb323) ho0 (fun k_ hk_ => ⟨(Kd.freshB (g := gb322) (o := .cells #[.string a1_0, .string a1_1] 28 (0, 0)) (bk BK322) k_ hk_), (Kd.freshB (g := gb323) (o := .cells #[.string a2_0, .string a2_1] 28 (0, 0)) (bk BK323) k_ hk_)⟩)) (below_size (bl2 HB GE322 GE323)))
  replace BK322 := aZ_ (blk_below (g := gb322) (o := .cells #[.string a1_0, .string a1_1] 28 (0, 0)) (bk BK322) hb)
  replace BK323 := aZ_ (blk_below (g := gb323) (o := .cells #[.string a2_0, .string a2_1] 28 (0, 0)) (bk BK323) hb)
  replace HB := aZ_ (below_step (bl2 HB GE322 GE323) hb)
  (try clear hb)
  (try clear hb2)
  (try clear hk)
  (try clear hi)
  (try clear ho0)
  obtain ⟨Ao14, co14, eo14⟩ := Kd.V_slice HO326.out
  (first | subst eo14 | (injection eo14 with f1_ f2_ f3_; have f4_ := f1_.symm; have f5_ := f3_.symm; clear f1_ f2_ f3_; subst f4_; subst f5_))
  refine hK.out _ _ ⟨(blk_cell BK322.out 0).trans rfl, (blk_cell BK322.out 1).trans rfl, (blk_cell BK323.out 0).trans rfl, (blk_cell BK323.out 1).trans rfl⟩ (fun hHeld => ?_)
  clear hK K
  refine norm_ (a' := ?_) ?_ ?_
  rotate_left
  ·
   show Act.put _ (some 13) _ = _
   simp only [Act.put, List.setIfInBounds_toArray, List.set_cons_zero, List.set_cons_succ, i64_w, i32_w]
   rfl
  refine one_ (i := 8) (N := some 15) #[true, true, true, true, true, true, true, true, true, false, false] rfl rfl (one_of HT_.out (by kernel_rfl)) (by decide) (fun K hK => ?_)
  refine goes_ Tryz.func19 (by kernel_rfl) rfl #[.slice Ao14 t324.length co14, .agg #[.string a2_0, .string a2_1]] (by rfl) rfl rfl gm_ ?_
  with_reducible refine (chancelref9_has.calls k _ _ t324 a2_0 a2_1 t327 _ ?side1 ?side2 A9.out).mono ?_
  (case side1 => repeat (first | exact (Kd.V_reads' HO326.out).2.2 | (with_reducible refine Kd.C_alloc ?_ _) | (with_reducible refine Kd.C_drewN ?_ _) | (with_reducible refine Kd.C_drew ?_)))
  (case side2 => exact (Kd.V_reads' HO326.out).2.1)
  rintro e w15 ⟨rfl, hb⟩
  refine ⟨_, rfl, ?_⟩
  replace HO326 := aZ_ (Kd.V_below (kV HO326) hb)
  replace BK322 := aZ_ (blk_below (g := gb322) (o := .cells #[.string a1_0, .string a1_1] 28 (0, 0)) (bk BK322) hb)
  replace BK323 := aZ_ (blk_below (g := gb323) (o := .cells #[.string a2_0, .string a2_1] 28 (0, 0)) (bk BK323) hb)
  replace HB := aZ_ (below_step (bl2 HB GE322 GE323) hb)
  (try clear hb)
  (try clear hb2)
  (try clear hk)
  (try clear hi)
  refine hK.out _ _ ⟨(blk_cell BK322.out 0).trans rfl, (blk_cell BK322.out 1).trans rfl, (blk_cell BK323.out 0).trans rfl, (blk_cell BK323.out 1).trans rfl⟩ (fun hHeld => ?_)
  clear hK K
  refine norm_ (a' := ?_) ?_ ?_
  rotate_left
  ·
   show Act.put _ (some 15) _ = _
   simp only [Act.put, List.setIfInBounds_toArray, List.set_cons_zero, List.set_cons_succ, i64_w, i32_w]
   rfl
  refine pS_ 9 16 (fa 11 1023) HT_ ?_
  refine pS_ 10 6 (fa 11 2047) HT_ ?_
  refine done_ (done_of HT_.out (by kernel_rfl)) ?_
  try go_wp2
  go_ret
  exact ⟨by first | rfl | (simp [errW_none, errW_some] <;> rfl) | (simp [*, errW_none, errW_some] <;> rfl), bl2 HB GE322 GE323⟩

-- NOT PRINTED: function 3 (chancellaw13_EvalIn)

/-! ### decide_scope: function 26 -/
def decide_scope.f (l0 : List (S32)) (a1_0 : Int) (a1_1 : ByteArray) (a1_2 : ByteArray) (a2_0 : ByteArray) (a2_1 : ByteArray) : Option (Bool) := if a1_0 = 1 then (some (a2_0.toList == a1_1.toList && (a2_1.toList == a1_2.toList))) else (if a1_0 = 2 then ((above_In.f l0 a2_0 a2_1 a1_1 a1_2).bind fun t330 => (some t330)) else (some true))
set_option maxHeartbeats 8000000 in
set_option maxRecDepth 100000 in
theorem decide_scope.calls (A0 : Option Addr) (c0 : Nat) (l0 : List (S32)) (a1_0 : Int) (a1_1 : ByteArray) (a1_2 : ByteArray) (a2_0 : ByteArray) (a2_1 : ByteArray) (r : Bool) (w : World) (hr0 : Kd.C k32 w A0 l0.length l0) (hc0 : l0.length ≤ c0) (h : decide_scope.f l0 a1_0 a1_1 a1_2 a2_0 a2_1 = some r) :
  Calls Tryz.prog 26 #[.slice A0 l0.length c0, .agg #[.int .i64 a1_0, .string a1_1, .string a1_2], .agg #[.string a2_0, .string a2_1]] w fun e w' => e = .returned (.bool r) ∧ Below w.heap.size w w' := by
 have hu54 := Tryz.underlying54
 have hu28 := Tryz.underlying28
 have HR0 := aZ_ hr0
 have HC0 := aZ_ hc0
 clear hr0 hc0
 have HB := aZ_ (Below.refl w.heap.size w)
 have H : (if a1_0 = 1 then (some (a2_0.toList == a1_1.toList && (a2_1.toList == a1_2.toList))) else (if a1_0 = 2 then ((above_In.f l0 a2_0 a2_1 a1_1 a1_2).bind fun t330 => (some t330)) else (some true))) = some r := h
 clear h
 by_cases c4 : a1_0 = 1
 ·
  rw [if_pos c4] at H
  have c4b0 : (a1_0 == 1) = true := beq_iff_eq.mpr c4
  have c4b1 : (a1_0 != 1) = false := bne_eq_false_iff_eq.mpr c4
  clear c4
  obtain rfl := Option.some.inj H
  go_enter Tryz.func26, Tryz.ntmps26
  go_wp2_with (first | ((with_reducible refine gate_dst (N := 4) rfl ?_); refine bxE 4 #[.int .i64 a1_0, .string a1_1, .string a1_2] 54 ?_; intro gb328 hg w5 hbox hb; have BK328 := aZ_ (hbox); have GW328 := aZ_ ((by rw [hg]; exact (below_size (bl HB)) : w.heap.size ≤ gb328)); have GE328 := aZ_ ((by rw [hg]; exact (below_size (bl HB)) : w.heap.size ≤ gb328)); replace HB := aZ_ (below_step (bl HB) hb); clear hb hbox hg) | ((with_reducible refine gate_dst (N := 5) rfl ?_); refine bxE 5 #[.string a2_0, .string a2_1] 28 ?_; intro gb329 hg w6 hbox hb; have BK329 := aZ_ (hbox); have GW329 := aZ_ ((by rw [hg]; exact (below_size (bl1 HB GE328)) : w.heap.size ≤ gb329)); have GE329 := aZ_ ((by rw [hg]; exact (below_size (bl1 HB GE328)) : w.heap.size ≤ gb329)); replace HB := aZ_ (below_step (bl1 HB GE328) hb); have NB328_329 := aZ_ ((by rw [hg]; exact Nat.ne_of_lt (blk_lt (g := gb328) (o := .cells #[.int .i64 a1_0, .string a1_1, .string a1_2] 54 (0, 0)) (bk BK328)) : gb328 ≠ gb329)); have NB329_328 := aZ_ ((by rw [hg]; exact Nat.ne_of_gt (blk_lt (g := gb328) (o := .cells #[.int .i64 a1_0, .string a1_1, .string a1_2] 54 (0, 0)) (bk BK328)) : gb329 ≠ gb328)); replace BK328 := aZ_ (blk_below (g := gb328) (o := .cells #[.int .i64 a1_0, .string a1_1, .string a1_2] 54 (0, 0)) (bk BK328) hb); clear hb hbox hg; have hnb7 := NB328_329.out; have hnc7 := NB329_328.out; obtain ⟨hcz8_0, hcz8_1, hcz8_2, hfz8_0, hfz8_1, hfz8_2⟩ := bc3 BK328; obtain ⟨hcz9_0, hcz9_1, hfz9_0, hfz9_1⟩ := bc2 BK329))
  go_ret
  exact ⟨by first | rfl | (simp [errW_none, errW_some] <;> rfl) | (simp [*, errW_none, errW_some] <;> rfl), bl2 HB GE328 GE329⟩
 ·
  rw [if_neg c4] at H
  have c4b0 : (a1_0 == 1) = false := beq_eq_false_iff_ne.mpr c4
  have c4b1 : (a1_0 != 1) = true := bne_iff_ne.mpr c4
  by_cases c10 : a1_0 = 2
  ·
   rw [if_pos c10] at H
   have c10b0 : (a1_0 == 2) = true := beq_iff_eq.mpr c10
   have c10b1 : (a1_0 != 2) = false := bne_eq_false_iff_eq.mpr c10
   clear c10
   replace H := Option.bind_eq_some_iff.mp H
   obtain ⟨t330, A110, H⟩ := H
   replace H : (some t330) = some r := H
   have A11 := aZ_ A110
   clear A110
   obtain rfl := Option.some.inj H
   go_enter Tryz.func26, Tryz.ntmps26
   go_wp2_with (first | ((with_reducible refine gate_dst (N := 4) rfl ?_); refine bxE 4 #[.int .i64 a1_0, .string a1_1, .string a1_2] 54 ?_; intro gb328 hg w12 hbox hb; have BK328 := aZ_ (hbox); have GW328 := aZ_ ((by rw [hg]; exact (below_size (bl HB)) : w.heap.size ≤ gb328)); have GE328 := aZ_ ((by rw [hg]; exact (below_size (bl HB)) : w.heap.size ≤ gb328)); replace HB := aZ_ (below_step (bl HB) hb); clear hb hbox hg) | ((with_reducible refine gate_dst (N := 5) rfl ?_); refine bxE 5 #[.string a2_0, .string a2_1] 28 ?_; intro gb329 hg w13 hbox hb; have BK329 := aZ_ (hbox); have GW329 := aZ_ ((by rw [hg]; exact (below_size (bl1 HB GE328)) : w.heap.size ≤ gb329)); have GE329 := aZ_ ((by rw [hg]; exact (below_size (bl1 HB GE328)) : w.heap.size ≤ gb329)); replace HB := aZ_ (below_step (bl1 HB GE328) hb); have NB328_329 := aZ_ ((by rw [hg]; exact Nat.ne_of_lt (blk_lt (g := gb328) (o := .cells #[.int .i64 a1_0, .string a1_1, .string a1_2] 54 (0, 0)) (bk BK328)) : gb328 ≠ gb329)); have NB329_328 := aZ_ ((by rw [hg]; exact Nat.ne_of_gt (blk_lt (g := gb328) (o := .cells #[.int .i64 a1_0, .string a1_1, .string a1_2] 54 (0, 0)) (bk BK328)) : gb329 ≠ gb328)); replace BK328 := aZ_ (blk_below (g := gb328) (o := .cells #[.int .i64 a1_0, .string a1_1, .string a1_2] 54 (0, 0)) (bk BK328) hb); clear hb hbox hg; have hnb14 := NB328_329.out; have hnc14 := NB329_328.out; obtain ⟨hcz15_0, hcz15_1, hcz15_2, hfz15_0, hfz15_1, hfz15_2⟩ := bc3 BK328; obtain ⟨hcz16_0, hcz16_1, hfz16_0, hfz16_1⟩ := bc2 BK329) | ((with_reducible refine gate_callee (f := 39) rfl ?_); refine goesL_ (some 21) rfl rfl Tryz.func39 (by kernel_rfl) rfl #[.slice A0 l0.length c0, .agg #[.string a2_0, .string a2_1], .agg #[.string a1_1, .string a1_2]] rfl gm_ ?_; (with_reducible refine (above_In.calls _ _ l0 a2_0 a2_1 a1_1 a1_2 t330 _ ?side1 ?side2 A11.out).mono ?_); (case side1 => exact kC (Kd.C_below HR0.out HB.out)); (case side2 => exact HC0.out); rintro e w17 ⟨rfl, hb⟩; refine ⟨_, rfl, ?_⟩; replace BK328 := aZ_ (blk_below (g := gb328) (o := .cells #[.int .i64 a1_0, .string a1_1, .string a1_2] 54 (0, 0)) (bk BK328) hb); replace BK329 := aZ_ (blk_below (g := gb329) (o := .cells #[.string a2_0, .string a2_1] 28 (0, 0)) (bk BK329) hb); replace HB := aZ_ (below_step (bl2 HB GE328 GE329) hb); (try clear hb); (try clear hb2); (try clear hk); (try clear hi)))
   go_ret
   exact ⟨by first | rfl | (simp [errW_none, errW_some] <;> rfl) | (simp [*, errW_none, errW_some] <;> rfl), bl2 HB GE328 GE329⟩
  ·
   rw [if_neg c10] at H
   have c10b0 : (a1_0 == 2) = false := beq_eq_false_iff_ne.mpr c10
   have c10b1 : (a1_0 != 2) = true := bne_iff_ne.mpr c10
   obtain rfl := Option.some.inj H
   go_enter Tryz.func26, Tryz.ntmps26
   go_wp2_with (first | ((with_reducible refine gate_dst (N := 4) rfl ?_); refine bxE 4 #[.int .i64 a1_0, .string a1_1, .string a1_2] 54 ?_; intro gb328 hg w18 hbox hb; have BK328 := aZ_ (hbox); have GW328 := aZ_ ((by rw [hg]; exact (below_size (bl HB)) : w.heap.size ≤ gb328)); have GE328 := aZ_ ((by rw [hg]; exact (below_size (bl HB)) : w.heap.size ≤ gb328)); replace HB := aZ_ (below_step (bl HB) hb); clear hb hbox hg) | ((with_reducible refine gate_dst (N := 5) rfl ?_); refine bxE 5 #[.string a2_0, .string a2_1] 28 ?_; intro gb329 hg w19 hbox hb; have BK329 := aZ_ (hbox); have GW329 := aZ_ ((by rw [hg]; exact (below_size (bl1 HB GE328)) : w.heap.size ≤ gb329)); have GE329 := aZ_ ((by rw [hg]; exact (below_size (bl1 HB GE328)) : w.heap.size ≤ gb329)); replace HB := aZ_ (below_step (bl1 HB GE328) hb); have NB328_329 := aZ_ ((by rw [hg]; exact Nat.ne_of_lt (blk_lt (g := gb328) (o := .cells #[.int .i64 a1_0, .string a1_1, .string a1_2] 54 (0, 0)) (bk BK328)) : gb328 ≠ gb329)); have NB329_328 := aZ_ ((by rw [hg]; exact Nat.ne_of_gt (blk_lt (g := gb328) (o := .cells #[.int .i64 a1_0, .string a1_1, .string a1_2] 54 (0, 0)) (bk BK328)) : gb329 ≠ gb328)); replace BK328 := aZ_ (blk_below (g := gb328) (o := .cells #[.int .i64 a1_0, .string a1_1, .string a1_2] 54 (0, 0)) (bk BK328) hb); clear hb hbox hg; have hnb20 := NB328_329.out; have hnc20 := NB329_328.out; obtain ⟨hcz21_0, hcz21_1, hcz21_2, hfz21_0, hfz21_1, hfz21_2⟩ := bc3 BK328))
   go_ret
   exact ⟨by first | rfl | (simp [errW_none, errW_some] <;> rfl) | (simp [*, errW_none, errW_some] <;> rfl), bl2 HB GE328 GE329⟩

-- NOT PRINTED: function 14 (decide_One)

-- NOT PRINTED: function 21 (decide_All)

-- NOT PRINTED: function 10 (chancellaw14_known)

/-! ### chancellaw5_id: function 25 -/
def chancellaw5_id.f (k : Nat) (l0 : List Int) : Option (ByteArray) := if (l0.length : Int) > 8 then (if 8 ≤ (l0.length : Int) then ((chancellaw1_Of.f k (l0.take 8)).bind fun t344 => (some t344)) else (none)) else ((chancellaw1_Of.f k l0).bind fun t345 => (some t345))
theorem chancellaw5_id.mono : ∀ a0 k, LeO (chancellaw5_id.f k a0) (chancellaw5_id.f (k + 1) a0) := by
 intro a0 k
 unfold chancellaw5_id.f
 repeat' first
   | (with_reducible exact chancellaw1_Of.mono _ _)
   | (with_reducible exact LeO.refl _)
   | (with_reducible exact LeO.none _)
   | (with_reducible refine LeO.ite ?_ ?_)
   | (with_reducible refine LeO.bind ?_ (fun _ => ?_))
   | exact chancellaw1_Of.mono _ _
   | exact LeO.none _
   | refine LeO.ite ?_ ?_
   | refine LeO.bind ?_ (fun _ => ?_)
set_option maxHeartbeats 8000000 in
set_option maxRecDepth 100000 in
theorem chancellaw5_id.calls (k : Nat) (A0 : Option Addr) (c0 : Nat) (l0 : List Int) (r : ByteArray) (w : World) (hr0 : Kd.C (Kd.int .i64) w A0 l0.length l0) (hc0 : l0.length ≤ c0) (h : chancellaw5_id.f k l0 = some r) :
  Calls Tryz.prog 25 #[.slice A0 l0.length c0] w fun e w' => e = .returned (.string r) ∧ Below w.heap.size w w' := by
 have HR0 := aZ_ hr0
 have HC0 := aZ_ hc0
 clear hr0 hc0
 have HB := aZ_ (Below.refl w.heap.size w)
 have H : (if (l0.length : Int) > 8 then (if 8 ≤ (l0.length : Int) then ((chancellaw1_Of.f k (l0.take 8)).bind fun t344 => (some t344)) else (none)) else ((chancellaw1_Of.f k l0).bind fun t345 => (some t345))) = some r := h
 clear h
 by_cases c2 : (l0.length : Int) > 8
 ·
  rw [if_pos c2] at H
  have c2b0 : decide (8 < (l0.length : Int)) = true := decide_eq_true c2
  have c2b1 : decide (8 < l0.length) = true := decide_eq_true (by omega)
  clear c2
  by_cases c3 : 8 ≤ (l0.length : Int)
  ·
   rw [if_pos c3] at H
   have c3b0 := eq_true c3
   have c3b1 : decide (8 ≤ (l0.length : Int)) = true := decide_eq_true c3
   clear c3
   replace H := Option.bind_eq_some_iff.mp H
   obtain ⟨t344, A40, H⟩ := H
   replace H : (some t344) = some r := H
   have A4 := aZ_ A40
   clear A40
   obtain rfl := Option.some.inj H
   obtain ⟨i05, hi05, _, hsz5, _⟩ := info_parts info3
   obtain ⟨hcut5, hA5, hC5⟩ := print_take_of (P := Tryz.prog) (Value.int .i64) 0 23 3 .i64 Tryz.underlying23 hi05 hsz5 A0 c0 l0 8 (by omega) (of_decide_eq_true asm_) HC0.out
   have HR343 := aZ_ (Kd.C_of_reads (h1 := fun _ => rfl) (hA5 _ (Kd.reads_of_C HR0.out)))
   have HC343 := aZ_ hC5
   clear hA5 hC5 hi05 hsz5
   go_enter Tryz.func25, Tryz.ntmps25
   go_wp2_with (first | ((with_reducible refine gate_callee (f := 38) rfl ?_); refine goesL_ (some 9) rfl rfl Tryz.func38 (by kernel_rfl) rfl #[.slice A0 (l0.take 8).length c0] rfl (by (try simp only [List.map_toArray, List.map_cons, List.map_nil]); first | done | (rw [show (l0.take 8).length = 8 from (by rw [List.length_take]; have h_ : (8 : Int) ≤ (l0.length : Int) := of_decide_eq_true asm_; omega)] <;> rfl) | rfl | (simp only [List.length_drop, List.length_take]; rfl)) ?_; (with_reducible refine (chancellaw1_Of.calls k _ _ (l0.take 8) t344 _ ?side1 ?side2 A4.out).mono ?_); (case side1 => repeat (first | exact HR343.out | (with_reducible refine Kd.C_alloc ?_ _) | (with_reducible refine Kd.C_drewN ?_ _) | (with_reducible refine Kd.C_drew ?_))); (case side2 => exact HC343.out); rintro e w6 ⟨rfl, hb⟩; refine ⟨_, rfl, ?_⟩; replace HB := aZ_ (below_step (bl HB) hb); (try clear hb); (try clear hb2); (try clear hk); (try clear hi)))
   go_ret
   exact ⟨by first | rfl | (simp [errW_none, errW_some] <;> rfl) | (simp [*, errW_none, errW_some] <;> rfl), bl HB⟩
  ·
   rw [if_neg c3] at H
   exact absurd H (by simp)
 ·
  rw [if_neg c2] at H
  have c2b0 : decide (8 < (l0.length : Int)) = false := decide_eq_false c2
  have c2b1 : decide (8 < l0.length) = false := decide_eq_false (by omega)
  clear c2
  replace H := Option.bind_eq_some_iff.mp H
  obtain ⟨t345, A70, H⟩ := H
  replace H : (some t345) = some r := H
  have A7 := aZ_ A70
  clear A70
  obtain rfl := Option.some.inj H
  go_enter Tryz.func25, Tryz.ntmps25
  go_wp2_with (first | ((with_reducible refine gate_callee (f := 38) rfl ?_); refine goesL_ (some 9) rfl rfl Tryz.func38 (by kernel_rfl) rfl #[.slice A0 l0.length c0] rfl gm_ ?_; (with_reducible refine (chancellaw1_Of.calls k _ _ l0 t345 _ ?side1 ?side2 A7.out).mono ?_); (case side1 => repeat (first | exact HR0.out | (with_reducible refine Kd.C_alloc ?_ _) | (with_reducible refine Kd.C_drewN ?_ _) | (with_reducible refine Kd.C_drew ?_))); (case side2 => exact HC0.out); rintro e w8 ⟨rfl, hb⟩; refine ⟨_, rfl, ?_⟩; replace HB := aZ_ (below_step (bl HB) hb); (try clear hb); (try clear hb2); (try clear hk); (try clear hi)))
  go_ret
  exact ⟨by first | rfl | (simp [errW_none, errW_some] <;> rfl) | (simp [*, errW_none, errW_some] <;> rfl), bl HB⟩

end Go.Proofs.YtelibndkkokadaaGreat.GB
