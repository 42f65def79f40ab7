import Derived.Test.YtelibndkkokadaaGB0
import Derived.Test.YtelibndkkokadaaJk
import Derived.Test.YtelibndkkokadaaGB15
import Derived.Test.YtelibndkkokadaaJt
import Derived.Test.YtelibndkkokadaaSqz
import Derived.Test.YtelibndkkokadaaEd
import Derived.Test.YtelibndkkokadaaJb
namespace Go.Proofs.Ytelibndkkokadaa.GB
open Go.RowKit Go.Proofs.YtelibndkkokadaaW.PrintWords Go.Proofs.YtelibndkkokadaaW.PrintLast Go.Proofs.Ytelibndkkokadaa.HandV Go.Proofs.YtelibndkkokadaaW.PrintMore
attribute [local go_sem] max2_int min2_int max_two min_two max_three min_three max_four min_four   -- for this text's walks alone
set_option linter.unusedVariables false
set_option linter.unusedSimpArgs false

attribute [local go_sem high] eqA28
-- BREAK
/-! ### chancelref9_Above: function 20, given -/
/-- All that is above one. -/
def chancelref9_Above.f (l0 : List S38) (a1_0 a1_1 : ByteArray) : Option (List S28) :=
 if GA.okL l0 = true then some (GA.refF l0 ⟨a1_0, a1_1⟩) else none
theorem chancelref9_Above.calls (A0 : Option Addr) (c0 : Nat) (l0 : List S38) (a1_0 : ByteArray) (a1_1 : ByteArray) (r : List S28) (w : World) (hr0 : Kd.C k38 w A0 l0.length l0) (hc0 : l0.length ≤ c0) (h : chancelref9_Above.f l0 a1_0 a1_1 = some r) :
  Calls Try.prog 20 #[.slice A0 l0.length c0, .agg #[.string a1_0, .string a1_1]] w fun e w' => ∃ v0_ : Value, e = .returned (v0_) ∧ Kd.V k28 28 w' w.heap.size (fun k_ => w.heap.size ≤ k_) v0_ r ∧ Below w.heap.size w w' := by
 unfold chancelref9_Above.f at h
 by_cases hs : GA.okL l0 = true
 ·
  rw [if_pos hs] at h
  obtain rfl := Option.some.inj h
  exact GA.refAbove_calls l0 hs ⟨a1_0, a1_1⟩ A0 c0 w hc0 hr0
 ·
  rw [if_neg hs] at h
  exact absurd h (by simp)

/-! ### chancelref9_In: function 17 -/
def chancelref9_In.f (k : Nat) (l0 : List (S38)) (a1_0 : ByteArray) (a1_1 : ByteArray) (a2_0 : ByteArray) (a2_1 : ByteArray) : Option (Bool) := if (a1_0.toList == a2_0.toList && (a1_1.toList == a2_1.toList)) = true then (some true) else ((chancelref9_Above.f l0 a1_0 a1_1).bind fun t473 => ((chancelref9_has.f k t473 a2_0 a2_1).bind fun t476 => (some t476)))
theorem chancelref9_In.mono : ∀ a0 a1 a2 a3 a4 k, LeO (chancelref9_In.f k a0 a1 a2 a3 a4) (chancelref9_In.f (k + 1) a0 a1 a2 a3 a4) := by
 intro a0 a1 a2 a3 a4 k
 unfold chancelref9_In.f
 repeat' first
   | (with_reducible exact chancelref9_has.mono _ _ _ _)
   | (with_reducible exact LeO.refl _)
   | (with_reducible exact LeO.none _)
   | (with_reducible refine LeO.ite ?_ ?_)
   | (with_reducible refine LeO.bind ?_ (fun _ => ?_))
   | exact chancelref9_has.mono _ _ _ _
   | exact LeO.none _
   | refine LeO.ite ?_ ?_
   | refine LeO.bind ?_ (fun _ => ?_)
def chancelref9_In.T1 : Bool × List (List Nat × List Nat) := (true, [([], []), ([], []), ([0, 1], [0, 1]), ([2], [2]), ([3], [3]), ([3], [3]), ([4, 5, 3, 3], [3, 4, 5]), ([3], [3]), ([6, 7, 6, 3], [3, 6, 7]), ([3, 8], [3, 8]), ([9, 8, 0, 1, 2, 3, 4, 5, 6, 7, 8, 9], [9])])
def chancelref9_In.B1 : List Nat := [0, 0, 3, 7, 15, 15, 63, 15, 255, 511, 1023]
theorem chancelref9_In.tab1 : rtab .any (opsOf Try.f17 1) = chancelref9_In.T1 := by kernel_rfl
theorem chancelref9_In.bits1 : waitsOk chancelref9_In.T1.2 chancelref9_In.B1 = true := by kernel_rfl
set_option maxHeartbeats 8000000 in
set_option maxRecDepth 100000 in
theorem chancelref9_In.calls (k : Nat) (A0 : Option Addr) (c0 : Nat) (l0 : List (S38)) (a1_0 : ByteArray) (a1_1 : ByteArray) (a2_0 : ByteArray) (a2_1 : ByteArray) (r : Bool) (w : World) (hr0 : Kd.C k38 w A0 l0.length l0) (hc0 : l0.length ≤ c0) (h : chancelref9_In.f k l0 a1_0 a1_1 a2_0 a2_1 = some r) :
  Calls Try.prog 17 #[.slice A0 l0.length c0, .agg #[.string a1_0, .string a1_1], .agg #[.string a2_0, .string a2_1]] w fun e w' => e = .returned (.bool r) ∧ Below w.heap.size w w' := by
 have hu28 := Try.underlying28
 have HR0 := aZ_ hr0
 have HC0 := aZ_ hc0
 clear hr0 hc0
 have HB := aZ_ (Below.refl w.heap.size w)
 have H : (if (a1_0.toList == a2_0.toList && (a1_1.toList == a2_1.toList)) = true then (some true) else ((chancelref9_Above.f l0 a1_0 a1_1).bind fun t473 => ((chancelref9_has.f k t473 a2_0 a2_1).bind fun t476 => (some t476)))) = some r := h
 clear h
 by_cases c4 : (a1_0.toList == a2_0.toList && (a1_1.toList == a2_1.toList)) = true
 ·
  rw [if_pos c4] at H
  have c4b0 : (a1_0.toList == a2_0.toList && (a1_1.toList == a2_1.toList)) = true := c4
  (try (have c4b1 : decide (a1_0.toList = a2_0.toList && (a1_1.toList == a2_1.toList)) = true := by simpa using c4))
  (try (have c4b2 : (a1_0.toList == a2_0.toList && (a1_1.toList == a2_1.toList)) = true := by simpa using c4))
  clear c4
  obtain rfl := Option.some.inj H
  go_enter Try.func17, Try.ntmps17
  try go_wp2_with (first | ((with_reducible refine gate_dst (N := 4) rfl ?_); refine bxE 4 #[.string a1_0, .string a1_1] 28 ?_; intro gb471 hg w5 hbox hb; have BK471 := aZ_ (hbox); have GW471 := aZ_ ((by rw [hg]; exact (below_size (bl HB)) : w.heap.size ≤ gb471)); have GE471 := aZ_ ((by rw [hg]; exact (below_size (bl HB)) : w.heap.size ≤ gb471)); replace HB := aZ_ (below_step (bl HB) hb); clear hb hbox hg) | ((with_reducible refine gate_dst (N := 5) rfl ?_); refine bxE 5 #[.string a2_0, .string a2_1] 28 ?_; intro gb472 hg w6 hbox hb; have BK472 := aZ_ (hbox); have GW472 := aZ_ ((by rw [hg]; exact (below_size (bl1 HB GE471)) : w.heap.size ≤ gb472)); have GE472 := aZ_ ((by rw [hg]; exact (below_size (bl1 HB GE471)) : w.heap.size ≤ gb472)); replace HB := aZ_ (below_step (bl1 HB GE471) hb); have NB471_472 := aZ_ ((by rw [hg]; exact Nat.ne_of_lt (blk_lt (g := gb471) (o := .cells #[.string a1_0, .string a1_1] 28 (0, 0)) (bk BK471)) : gb471 ≠ gb472)); have NB472_471 := aZ_ ((by rw [hg]; exact Nat.ne_of_gt (blk_lt (g := gb471) (o := .cells #[.string a1_0, .string a1_1] 28 (0, 0)) (bk BK471)) : gb472 ≠ gb471)); replace BK471 := aZ_ (blk_below (g := gb471) (o := .cells #[.string a1_0, .string a1_1] 28 (0, 0)) (bk BK471) hb); clear hb hbox hg))
  replace BK471 := aZ_ (blk_drew BK471.out)
  replace BK472 := aZ_ (blk_drew BK472.out)
  replace HB := aZ_ (below_drew1 HB.out)
  refine start_ (n := 11) (S := fun w' => w'.cell? ⟨gb471, 0, none⟩ = some (.string a1_0) ∧ w'.cell? ⟨gb471, 1, none⟩ = some (.string a1_1) ∧ w'.cell? ⟨gb472, 0, none⟩ = some (.string a2_0) ∧ w'.cell? ⟨gb472, 1, none⟩ = some (.string a2_1)) (ds := []) #[false, false, false, false, false, false, false, false, false, false, false] (by kernel_rfl) rfl rfl ⟨(blk_cell BK471.out 0).trans rfl, (blk_cell BK471.out 1).trans rfl, (blk_cell BK472.out 0).trans rfl, (blk_cell BK472.out 1).trans rfl⟩ (fun hHeld => ?_); refine with_tabW chancelref9_In.tab1 chancelref9_In.bits1 (fun HT_ HW_ => ?_)
  generalize w6.drew = w7 at BK471 BK472 HB hHeld ⊢
  refine tS_ 0 7 (fa 11 1) HT_ HW_ hHeld ?_
  refine tS_ 1 8 (fa 11 3) HT_ HW_ hHeld ?_
  refine pS_ 2 9 (fa 11 7) HT_ ?_
  refine pS_ 3 10 (fa 11 15) HT_ ?_
  refine pU_ 4 11 (fa 11 31) HT_ ?_
  refine pU_ 5 12 (fa 11 63) HT_ ?_
  refine pU_ 6 13 (fa 11 127) HT_ ?_
  refine pU_ 7 14 (fa 11 255) HT_ ?_
  refine pU_ 8 15 (fa 11 511) HT_ ?_
  refine pS_ 9 16 (fa 11 1023) HT_ ?_
  refine pS_ 10 6 (fa 11 2047) HT_ ?_
  refine done_ (done_of HT_.out (by kernel_rfl)) ?_
  try go_wp2
  go_ret
  exact ⟨by first | rfl | (simp [errW_none, errW_some] <;> rfl) | (simp [*, errW_none, errW_some] <;> rfl), bl2 HB GE471 GE472⟩
 ·
  rw [if_neg c4] at H
  have c4b0 : (a1_0.toList == a2_0.toList && (a1_1.toList == a2_1.toList)) = false := by simpa using c4
  (try (have c4b1 : decide (a1_0.toList = a2_0.toList && (a1_1.toList == a2_1.toList)) = false := by simpa using c4))
  (try (have c4b2 : (a1_0.toList == a2_0.toList && (a1_1.toList == a2_1.toList)) = false := by simpa using c4))
  (try (have c4b3 : ¬ (a1_0.toList = a2_0.toList && (a1_1.toList == a2_1.toList)) := by simpa using c4))
  clear c4
  replace H := Option.bind_eq_some_iff.mp H
  obtain ⟨t473, A80, H⟩ := H
  replace H : ((chancelref9_has.f k t473 a2_0 a2_1).bind fun t476 => (some t476)) = some r := H
  have A8 := aZ_ A80
  clear A80
  replace H := Option.bind_eq_some_iff.mp H
  obtain ⟨t476, A90, H⟩ := H
  replace H : (some t476) = some r := H
  have A9 := aZ_ A90
  clear A90
  obtain rfl := Option.some.inj H
  go_enter Try.func17, Try.ntmps17
  try go_wp2_with (first | ((with_reducible refine gate_dst (N := 4) rfl ?_); refine bxE 4 #[.string a1_0, .string a1_1] 28 ?_; intro gb471 hg w10 hbox hb; have BK471 := aZ_ (hbox); have GW471 := aZ_ ((by rw [hg]; exact (below_size (bl HB)) : w.heap.size ≤ gb471)); have GE471 := aZ_ ((by rw [hg]; exact (below_size (bl HB)) : w.heap.size ≤ gb471)); replace HB := aZ_ (below_step (bl HB) hb); clear hb hbox hg) | ((with_reducible refine gate_dst (N := 5) rfl ?_); refine bxE 5 #[.string a2_0, .string a2_1] 28 ?_; intro gb472 hg w11 hbox hb; have BK472 := aZ_ (hbox); have GW472 := aZ_ ((by rw [hg]; exact (below_size (bl1 HB GE471)) : w.heap.size ≤ gb472)); have GE472 := aZ_ ((by rw [hg]; exact (below_size (bl1 HB GE471)) : w.heap.size ≤ gb472)); replace HB := aZ_ (below_step (bl1 HB GE471) hb); have NB471_472 := aZ_ ((by rw [hg]; exact Nat.ne_of_lt (blk_lt (g := gb471) (o := .cells #[.string a1_0, .string a1_1] 28 (0, 0)) (bk BK471)) : gb471 ≠ gb472)); have NB472_471 := aZ_ ((by rw [hg]; exact Nat.ne_of_gt (blk_lt (g := gb471) (o := .cells #[.string a1_0, .string a1_1] 28 (0, 0)) (bk BK471)) : gb472 ≠ gb471)); replace BK471 := aZ_ (blk_below (g := gb471) (o := .cells #[.string a1_0, .string a1_1] 28 (0, 0)) (bk BK471) hb); clear hb hbox hg))
  replace BK471 := aZ_ (blk_drew BK471.out)
  replace BK472 := aZ_ (blk_drew BK472.out)
  replace HB := aZ_ (below_drew1 HB.out)
  refine start_ (n := 11) (S := fun w' => w'.cell? ⟨gb471, 0, none⟩ = some (.string a1_0) ∧ w'.cell? ⟨gb471, 1, none⟩ = some (.string a1_1) ∧ w'.cell? ⟨gb472, 0, none⟩ = some (.string a2_0) ∧ w'.cell? ⟨gb472, 1, none⟩ = some (.string a2_1)) (ds := []) #[false, false, false, false, false, false, false, false, false, false, false] (by kernel_rfl) rfl rfl ⟨(blk_cell BK471.out 0).trans rfl, (blk_cell BK471.out 1).trans rfl, (blk_cell BK472.out 0).trans rfl, (blk_cell BK472.out 1).trans rfl⟩ (fun hHeld => ?_); refine with_tabW chancelref9_In.tab1 chancelref9_In.bits1 (fun HT_ HW_ => ?_)
  generalize w11.drew = w12 at BK471 BK472 HB hHeld ⊢
  refine tS_ 0 7 (fa 11 1) HT_ HW_ hHeld ?_
  refine tS_ 1 8 (fa 11 3) HT_ HW_ hHeld ?_
  refine pS_ 2 9 (fa 11 7) HT_ ?_
  refine pS_ 3 10 (fa 11 15) HT_ ?_
  refine pS_ 4 11 (fa 11 31) HT_ ?_
  refine tS_ 5 12 (fa 11 63) HT_ HW_ hHeld ?_
  refine tS_ 7 14 (fa 11 191) HT_ HW_ hHeld ?_
  refine one_ (i := 6) (N := some 13) #[true, true, true, true, true, true, true, true, false, false, false] rfl rfl (one_of HT_.out (by kernel_rfl)) (by decide) (fun K hK => ?_)
  refine goes_ Try.func20 (by kernel_rfl) rfl #[.slice A0 l0.length c0, .agg #[.string a1_0, .string a1_1]] (by rfl) rfl rfl gm_ ?_
  with_reducible refine (chancelref9_Above.calls _ _ l0 a1_0 a1_1 t473 _ ?side1 ?side2 A8.out).mono ?_
  (case side1 => exact kC (Kd.C_below HR0.out HB.out))
  (case side2 => exact HC0.out)
  rintro e w13 ⟨v474, rfl, ho0, hb⟩
  refine ⟨_, rfl, ?_⟩
  have HO475 := aZ_ (Kd.V_lower (Kd.V_mono (ok' := fun k_ => k_ ≠ gb471 ∧ k_ ≠ gb472) ho0 (fun k_ hk_ => ⟨(Kd.freshB (g := gb471) (o := .cells #[.string a1_0, .string a1_1] 28 (0, 0)) (bk BK471) k_ hk_), (Kd.freshB (g := gb472) (o := .cells #[.string a2_0, .string a2_1] 28 (0, 0)) (bk BK472) k_ hk_)⟩)) (below_size (bl2 HB GE471 GE472)))
  replace BK471 := aZ_ (blk_below (g := gb471) (o := .cells #[.string a1_0, .string a1_1] 28 (0, 0)) (bk BK471) hb)
  replace BK472 := aZ_ (blk_below (g := gb472) (o := .cells #[.string a2_0, .string a2_1] 28 (0, 0)) (bk BK472) hb)
  replace HB := aZ_ (below_step (bl2 HB GE471 GE472) hb)
  (try clear hb)
  (try clear hb2)
  (try clear hk)
  (try clear hi)
  (try clear ho0)
  obtain ⟨Ao14, co14, eo14⟩ := Kd.V_slice HO475.out
  (first | subst eo14 | (injection eo14 with f1_ f2_ f3_; have f4_ := f1_.symm; have f5_ := f3_.symm; clear f1_ f2_ f3_; subst f4_; subst f5_))
  refine hK.out _ _ ⟨(blk_cell BK471.out 0).trans rfl, (blk_cell BK471.out 1).trans rfl, (blk_cell BK472.out 0).trans rfl, (blk_cell BK472.out 1).trans rfl⟩ (fun hHeld => ?_)
  clear hK K
  refine norm_ (a' := ?_) ?_ ?_
  rotate_left
  ·
   show Act.put _ (some 13) _ = _
   simp only [Act.put, List.setIfInBounds_toArray, List.set_cons_zero, List.set_cons_succ, i64_w, i32_w]
   rfl
  refine one_ (i := 8) (N := some 15) #[true, true, true, true, true, true, true, true, true, false, false] rfl rfl (one_of HT_.out (by kernel_rfl)) (by decide) (fun K hK => ?_)
  refine goes_ Try.func48 (by kernel_rfl) rfl #[.slice Ao14 t473.length co14, .agg #[.string a2_0, .string a2_1]] (by rfl) rfl rfl gm_ ?_
  with_reducible refine (chancelref9_has.calls k _ _ t473 a2_0 a2_1 t476 _ ?side1 ?side2 A9.out).mono ?_
  (case side1 => repeat (first | exact (Kd.V_reads' HO475.out).2.2 | (with_reducible refine Kd.C_alloc ?_ _) | (with_reducible refine Kd.C_drewN ?_ _) | (with_reducible refine Kd.C_drew ?_)))
  (case side2 => exact (Kd.V_reads' HO475.out).2.1)
  rintro e w15 ⟨rfl, hb⟩
  refine ⟨_, rfl, ?_⟩
  replace HO475 := aZ_ (Kd.V_below (kV HO475) hb)
  replace BK471 := aZ_ (blk_below (g := gb471) (o := .cells #[.string a1_0, .string a1_1] 28 (0, 0)) (bk BK471) hb)
  replace BK472 := aZ_ (blk_below (g := gb472) (o := .cells #[.string a2_0, .string a2_1] 28 (0, 0)) (bk BK472) hb)
  replace HB := aZ_ (below_step (bl2 HB GE471 GE472) hb)
  (try clear hb)
  (try clear hb2)
  (try clear hk)
  (try clear hi)
  refine hK.out _ _ ⟨(blk_cell BK471.out 0).trans rfl, (blk_cell BK471.out 1).trans rfl, (blk_cell BK472.out 0).trans rfl, (blk_cell BK472.out 1).trans rfl⟩ (fun hHeld => ?_)
  clear hK K
  refine norm_ (a' := ?_) ?_ ?_
  rotate_left
  ·
   show Act.put _ (some 15) _ = _
   simp only [Act.put, List.setIfInBounds_toArray, List.set_cons_zero, List.set_cons_succ, i64_w, i32_w]
   rfl
  refine pS_ 9 16 (fa 11 1023) HT_ ?_
  refine pS_ 10 6 (fa 11 2047) HT_ ?_
  refine done_ (done_of HT_.out (by kernel_rfl)) ?_
  try go_wp2
  go_ret
  exact ⟨by first | rfl | (simp [errW_none, errW_some] <;> rfl) | (simp [*, errW_none, errW_some] <;> rfl), bl2 HB GE471 GE472⟩

/-! ### chancellaw9_same: function 18 -/
def chancellaw9_same.l0 : Nat → List (S28) → List (S28) → Int → Option (Bool)
 | 0, _, _, _ => none
 | k + 1, x0, x1, x5 => if x5 < (x0.length : Int) then (if 0 ≤ x5 then (if x5 < (x1.length : Int) then (if (!((((rd_T28 x0 x5).f0).toList) == (((rd_T28 x1 x5).f0).toList)) || (!((((rd_T28 x0 x5).f1).toList) == (((rd_T28 x1 x5).f1).toList)))) = true then (some false) else (chancellaw9_same.l0 k x0 x1 (wrap64 (x5 + 1)))) else (none)) else (none)) else (some true)
def chancellaw9_same.f (k : Nat) (l0 : List (S28)) (l1 : List (S28)) : Option (Bool) := if (l0.length : Int) = (l1.length : Int) then (chancellaw9_same.l0 k l0 l1 0) else (some false)
theorem chancellaw9_same.mono_l : ∀ k, (∀ y0 y1 y2, LeO (chancellaw9_same.l0 k y0 y1 y2) (chancellaw9_same.l0 (k + 1) y0 y1 y2))
 | 0 => fun _ _ _ r h => by simp [chancellaw9_same.l0] at h
 | k + 1 => by
  have ih0 := chancellaw9_same.mono_l k
  ·
   intro y0 y1 y2
   unfold chancellaw9_same.l0
   repeat' first
   | (with_reducible exact ih0 _ _ _)
   | (with_reducible exact LeO.refl _)
   | (with_reducible exact LeO.none _)
   | (with_reducible refine LeO.ite ?_ ?_)
   | (with_reducible refine LeO.bind ?_ (fun _ => ?_))
   | exact ih0 _ _ _
   | exact LeO.none _
   | refine LeO.ite ?_ ?_
   | refine LeO.bind ?_ (fun _ => ?_)
theorem chancellaw9_same.mono : ∀ a0 a1 k, LeO (chancellaw9_same.f k a0 a1) (chancellaw9_same.f (k + 1) a0 a1) := by
 intro a0 a1 k
 have ih0 := chancellaw9_same.mono_l k
 unfold chancellaw9_same.f
 repeat' first
   | (with_reducible exact ih0 _ _ _)
   | (with_reducible exact LeO.refl _)
   | (with_reducible exact LeO.none _)
   | (with_reducible refine LeO.ite ?_ ?_)
   | (with_reducible refine LeO.bind ?_ (fun _ => ?_))
   | exact ih0 _ _ _
   | exact LeO.none _
   | refine LeO.ite ?_ ?_
   | refine LeO.bind ?_ (fun _ => ?_)
set_option maxHeartbeats 8000000 in
set_option maxRecDepth 100000 in
theorem chancellaw9_same.calls (k : Nat) (A0 : Option Addr) (c0 : Nat) (l0 : List (S28)) (A1 : Option Addr) (c1 : Nat) (l1 : List (S28)) (r : Bool) (w : World) (hr0 : Kd.C k28 w A0 l0.length l0) (hc0 : l0.length ≤ c0) (hr1 : Kd.C k28 w A1 l1.length l1) (hc1 : l1.length ≤ c1) (h : chancellaw9_same.f k l0 l1 = some r) :
  Calls Try.prog 18 #[.slice A0 l0.length c0, .slice A1 l1.length c1] w fun e w' => e = .returned (.bool r) ∧ Drawn0 w w' := by
 have hu28 := Try.underlying28
 have HR0 := aZ_ hr0
 have HC0 := aZ_ hc0
 clear hr0 hc0
 have HR1 := aZ_ hr1
 have HC1 := aZ_ hc1
 clear hr1 hc1
 have H : (if (l0.length : Int) = (l1.length : Int) then (chancellaw9_same.l0 k l0 l1 0) else (some false)) = some r := h
 clear h
 by_cases c3 : (l0.length : Int) = (l1.length : Int)
 ·
  rw [if_pos c3] at H
  have c3b0 : ((l0.length : Int) == (l1.length : Int)) = true := beq_iff_eq.mpr c3
  have c3b1 : ((l0.length : Int) != (l1.length : Int)) = false := bne_eq_false_iff_eq.mpr c3
  have c3b2 : (l0.length == l1.length) = true := by first | simpa using c3 | (simp at c3 ⊢; omega)
  clear c3
  have H' := aZ_ H
  clear H
  go_enter Try.func18, Try.ntmps18
  go_wp2
  repeat (go_quiet (fail); try go_wp2)
  go_loopg [5] k (fun kq v5 w' => ∃ (x5_1 : Int), v5 = .int .i64 x5_1 ∧ Aside0 (chancellaw9_same.l0 kq l0 l1 x5_1 = some r) ∧ Aside0 (kq ≤ k) ∧ Drawn0 w w')
  case atStart => exact ⟨(0), rf_, H', ⟨Nat.le_refl _⟩, by repeat (first | exact Drawn0.refl _ | apply Drawn0.step)⟩
  case round =>
   clear H'
   try clear c1
   try clear p2
   try clear c3
   try clear c3b0
   try clear c3b1
   try clear c3b2
   obtain ⟨x5_1, rfl, HA, HK1, ⟨m1, rfl⟩⟩ := hrel
   cases gk with
   | zero => exact absurd HA.out (by simp [chancellaw9_same.l0])
   | succ k1 =>
    have H := HA.out
    clear HA
    simp only [chancellaw9_same.l0] at H
    by_cases c4 : x5_1 < (l0.length : Int)
    ·
     rw [if_pos c4] at H
     have c4b0 : decide (x5_1 < (l0.length : Int)) = true := decide_eq_true c4
     clear c4
     by_cases c5 : 0 ≤ x5_1
     ·
      rw [if_pos c5] at H
      have c5b0 : decide (0 ≤ x5_1) = true := decide_eq_true c5
      clear c5
      by_cases c6 : x5_1 < (l1.length : Int)
      ·
       rw [if_pos c6] at H
       have c6b0 : decide (x5_1 < (l1.length : Int)) = true := decide_eq_true c6
       clear c6
       by_cases c7 : (!((((rd_T28 l0 x5_1).f0).toList) == (((rd_T28 l1 x5_1).f0).toList)) || (!((((rd_T28 l0 x5_1).f1).toList) == (((rd_T28 l1 x5_1).f1).toList)))) = true
       ·
        rw [if_pos c7] at H
        have c7b0 : (!((((rd_T28 l0 x5_1).f0).toList) == (((rd_T28 l1 x5_1).f0).toList)) || (!((((rd_T28 l0 x5_1).f1).toList) == (((rd_T28 l1 x5_1).f1).toList)))) = true := c7
        clear c7
        obtain rfl := Option.some.inj H
        have p477 : 0 ≤ (x5_1 : Int) := of_decide_eq_true asm_
        have q477 : x5_1 < (l0.length : Int) := of_decide_eq_true asm_
        obtain ⟨ad477, e477, hx477_0, hx477_1⟩ := at_T28 HR0.out x5_1 p477 q477
        cases e477
        replace p477 := eq_true p477
        replace q477 := eq_true q477
        have p478 : 0 ≤ (x5_1 : Int) := of_decide_eq_true asm_
        have q478 : x5_1 < (l1.length : Int) := of_decide_eq_true asm_
        obtain ⟨ad478, e478, hx478_0, hx478_1⟩ := at_T28 HR1.out x5_1 p478 q478
        cases e478
        replace p478 := eq_true p478
        replace q478 := eq_true q478
        go_wp2
        repeat (go_quiet (fail); try go_wp2)
        go_ret
        exact ⟨by first | rfl | (simp; done) | (simp [*]; done), by repeat (first | exact Drawn0.refl _ | apply Drawn0.step)⟩
       ·
        rw [if_neg c7] at H
        have c7b0 : (!((((rd_T28 l0 x5_1).f0).toList) == (((rd_T28 l1 x5_1).f0).toList)) || (!((((rd_T28 l0 x5_1).f1).toList) == (((rd_T28 l1 x5_1).f1).toList)))) = false := by simpa using c7
        clear c7
        have H' := aZ_ H
        clear H
        have p477 : 0 ≤ (x5_1 : Int) := of_decide_eq_true asm_
        have q477 : x5_1 < (l0.length : Int) := of_decide_eq_true asm_
        obtain ⟨ad477, e477, hx477_0, hx477_1⟩ := at_T28 HR0.out x5_1 p477 q477
        cases e477
        replace p477 := eq_true p477
        replace q477 := eq_true q477
        have p478 : 0 ≤ (x5_1 : Int) := of_decide_eq_true asm_
        have q478 : x5_1 < (l1.length : Int) := of_decide_eq_true asm_
        obtain ⟨ad478, e478, hx478_0, hx478_1⟩ := at_T28 HR1.out x5_1 p478 q478
        cases e478
        replace p478 := eq_true p478
        replace q478 := eq_true q478
        go_wp2
        repeat (go_quiet (fail); try go_wp2)
        go_roundg k1
        case measure => have := HK1.out; omega
        case rel => exact ⟨(wrap64 (x5_1 + 1)), rf_, H', ⟨by have := HK1.out; omega⟩, by repeat (first | exact Drawn0.refl _ | apply Drawn0.step)⟩
      ·
       rw [if_neg c6] at H
       exact absurd H (by simp)
     ·
      rw [if_neg c5] at H
      exact absurd H (by simp)
    ·
     rw [if_neg c4] at H
     have c4b0 : decide (x5_1 < (l0.length : Int)) = false := decide_eq_false c4
     clear c4
     obtain rfl := Option.some.inj H
     go_wp2
     repeat (go_quiet (fail); try go_wp2)
     go_ret
     exact ⟨by first | rfl | (simp; done) | (simp [*]; done), by repeat (first | exact Drawn0.refl _ | apply Drawn0.step)⟩
 ·
  rw [if_neg c3] at H
  have c3b0 : ((l0.length : Int) == (l1.length : Int)) = false := beq_eq_false_iff_ne.mpr c3
  have c3b1 : ((l0.length : Int) != (l1.length : Int)) = true := bne_iff_ne.mpr c3
  have c3b2 : (l0.length == l1.length) = false := by first | simpa using c3 | (simp at c3 ⊢; omega)
  obtain rfl := Option.some.inj H
  go_enter Try.func18, Try.ntmps18
  go_wp2
  repeat (go_quiet (fail); try go_wp2)
  go_ret
  exact ⟨by first | rfl | (simp; done) | (simp [*]; done), by repeat (first | exact Drawn0.refl _ | apply Drawn0.step)⟩

end Go.Proofs.Ytelibndkkokadaa.GB
namespace Go.Proofs.Ytelibndkkokadaa.GB
open Go.RowKit Go.Proofs.YtelibndkkokadaaW.PrintWords Go.Proofs.YtelibndkkokadaaW.PrintLast Go.Proofs.Ytelibndkkokadaa.HandV Go.Proofs.YtelibndkkokadaaW.PrintMore
attribute [local go_sem] max2_int min2_int max_two min_two max_three min_three max_four min_four   -- for this text's walks alone
set_option linter.unusedVariables false
set_option linter.unusedSimpArgs false

attribute [local go_sem high] eqA28
/-! ### chancelref9_Below: function 22 -/
def chancelref9_Below.l0 : Nat → List (S38) → List (S28) → Int → ByteArray → ByteArray → Option ((List (S28)))
 | 0, _, _, _, _, _ => none
 | k + 1, x0, x5, x6, x487000, x487001 => if x6 < (x0.length : Int) then (if 0 ≤ x6 then (if (!((((rd_T38 x0 x6).f0.f0).toList) == x487000.toList) || (!((((rd_T38 x0 x6).f0.f1).toList) == x487001.toList))) = true then ((chancelref9_In.f k x0 ((rd_T38 x0 x6).f0.f0) ((rd_T38 x0 x6).f0.f1) x487000 x487001).bind fun t489 => (if t489 = true then (if x5.length < 4398046511104 then (chancelref9_Below.l0 k x0 (x5 ++ [(⟨(rd_T38 x0 x6).f0.f0, (rd_T38 x0 x6).f0.f1⟩ : S28)]) (wrap64 (x6 + 1)) x487000 x487001) else (none)) else (chancelref9_Below.l0 k x0 x5 (wrap64 (x6 + 1)) x487000 x487001))) else (chancelref9_Below.l0 k x0 x5 (wrap64 (x6 + 1)) x487000 x487001)) else (none)) else (some x5)
def chancelref9_Below.f (k : Nat) (l0 : List (S38)) (a1_0 : ByteArray) (a1_1 : ByteArray) : Option ((List (S28))) := chancelref9_Below.l0 k l0 ([] : List (S28)) 0 a1_0 a1_1
theorem chancelref9_Below.mono_l : ∀ k, (∀ y0 y1 y2 y3 y4, LeO (chancelref9_Below.l0 k y0 y1 y2 y3 y4) (chancelref9_Below.l0 (k + 1) y0 y1 y2 y3 y4))
 | 0 => fun _ _ _ _ _ r h => by simp [chancelref9_Below.l0] at h
 | k + 1 => by
  have ih0 := chancelref9_Below.mono_l k
  ·
   intro y0 y1 y2 y3 y4
   unfold chancelref9_Below.l0
   repeat' first
   | (with_reducible exact ih0 _ _ _ _ _)
   | (with_reducible exact chancelref9_In.mono _ _ _ _ _ _)
   | (with_reducible exact LeO.refl _)
   | (with_reducible exact LeO.none _)
   | (with_reducible refine LeO.ite ?_ ?_)
   | (with_reducible refine LeO.bind ?_ (fun _ => ?_))
   | exact ih0 _ _ _ _ _
   | exact chancelref9_In.mono _ _ _ _ _ _
   | exact LeO.none _
   | refine LeO.ite ?_ ?_
   | refine LeO.bind ?_ (fun _ => ?_)
theorem chancelref9_Below.mono : ∀ a0 a1 a2 k, LeO (chancelref9_Below.f k a0 a1 a2) (chancelref9_Below.f (k + 1) a0 a1 a2) := by
 intro a0 a1 a2 k
 have ih0 := chancelref9_Below.mono_l k
 unfold chancelref9_Below.f
 repeat' first
   | (with_reducible exact ih0 _ _ _ _ _)
   | (with_reducible exact chancelref9_In.mono _ _ _ _ _ _)
   | (with_reducible exact LeO.refl _)
   | (with_reducible exact LeO.none _)
   | (with_reducible refine LeO.ite ?_ ?_)
   | (with_reducible refine LeO.bind ?_ (fun _ => ?_))
   | exact ih0 _ _ _ _ _
   | exact chancelref9_In.mono _ _ _ _ _ _
   | exact LeO.none _
   | refine LeO.ite ?_ ?_
   | refine LeO.bind ?_ (fun _ => ?_)
def chancelref9_Below.T5 : Bool × List (List Nat × List Nat) := (true, [([], []), ([], []), ([0, 1], [0, 1]), ([2], [2]), ([3], [3]), ([], []), ([4, 5], [4, 5]), ([6], [6]), ([7], [7]), ([7], [7]), ([7], [7]), ([9, 10, 7], [7, 9, 10]), ([11, 7], [7, 11]), ([12, 7], [7, 12]), ([7], [7]), ([8, 13, 14, 7, 7], [7, 8, 13, 14]), ([7, 15], [7, 15])])
def chancelref9_Below.B5 : List Nat := [0, 0, 3, 7, 15, 0, 63, 127, 255, 255, 255, 1791, 3839, 7935, 255, 32767, 65535]
theorem chancelref9_Below.tab5 : rtab .any (opsOf Try.f22 5) = chancelref9_Below.T5 := by kernel_rfl
theorem chancelref9_Below.bits5 : waitsOk chancelref9_Below.T5.2 chancelref9_Below.B5 = true := by kernel_rfl
set_option maxHeartbeats 8000000 in
set_option maxRecDepth 100000 in
theorem chancelref9_Below.calls (k : Nat) (A0 : Option Addr) (c0 : Nat) (l0 : List (S38)) (a1_0 : ByteArray) (a1_1 : ByteArray) (r : List (S28)) (w : World) (hr0 : Kd.C k38 w A0 l0.length l0) (hc0 : l0.length ≤ c0) (h : chancelref9_Below.f k l0 a1_0 a1_1 = some r) :
  Calls Try.prog 22 #[.slice A0 l0.length c0, .agg #[.string a1_0, .string a1_1]] w fun e w' => ∃ v0_ : Value, e = .returned (v0_) ∧ Kd.R k28 28 w' w.heap.size (fun _ => True) v0_ r ∧ Below w.heap.size w w' := by
 have hu28 := Try.underlying28
 have HR0 := aZ_ hr0
 have HC0 := aZ_ hc0
 clear hr0 hc0
 have HB := aZ_ (Below.refl w.heap.size w)
 have H : (chancelref9_Below.l0 k l0 ([] : List (S28)) 0 a1_0 a1_1) = some r := h
 clear h
 have H' := aZ_ H
 clear H
 go_enter Try.func22, Try.ntmps22
 go_wp2_with (first | ((with_reducible refine gate_dst (N := 3) rfl ?_); refine bxE 3 #[.string a1_0, .string a1_1] 28 ?_; intro gb486 hg w3 hbox hb; have BK486 := aZ_ (hbox); have GW486 := aZ_ ((by rw [hg]; exact (below_size (bl HB)) : w.heap.size ≤ gb486)); have GE486 := aZ_ ((by rw [hg]; exact (below_size (bl HB)) : w.heap.size ≤ gb486)); replace HB := aZ_ (below_step (bl HB) hb); clear hb hbox hg))
 go_loopg [5, 6] k (fun kq v5 v6 w' => ∃ (x5_1 : List (S28)) (x6_1 : Int), v6 = .int .i64 x6_1 ∧ Aside0 (chancelref9_Below.l0 kq l0 x5_1 x6_1 a1_0 a1_1 = some r) ∧ Aside0 (kq ≤ k) ∧ Aside0 (Kd.R k28 28 w' w.heap.size (fun k_ => k_ ≠ gb486) v5 x5_1) ∧ Aside0 (w'.heap[gb486]? = some (.cells #[.string a1_0, .string a1_1] 28 (0, 0))) ∧ Aside0 (Below w.heap.size w w'))
 case atStart => exact ⟨(([] : List (S28))), (0), rf_, H', ⟨Nat.le_refl _⟩, ⟨by first | exact Kd.R_nil _ _ _ _ _ | exact Kd.N_nil _ _ _ _ _ | exact Kd.V_nil _ _ _ _ _ | exact Kd.Q_nil _ _ _ _ _ | exact Kd.S_nil _ _ _ _ _⟩, ⟨bk BK486⟩, ⟨bl1 HB GE486⟩⟩
 case round =>
  clear H'
  try clear c2
  try clear p2
  obtain ⟨x5_1, x6_1, rfl, HA, HK1, HO_5, BK486, HB⟩ := hrel
  cases gk with
  | zero => exact absurd HA.out (by simp [chancelref9_Below.l0])
  | succ k1 =>
   have H := HA.out
   clear HA
   simp only [chancelref9_Below.l0] at H
   by_cases c4 : x6_1 < (l0.length : Int)
   ·
    rw [if_pos c4] at H
    have c4b0 : decide (x6_1 < (l0.length : Int)) = true := decide_eq_true c4
    clear c4
    by_cases c5 : 0 ≤ x6_1
    ·
     rw [if_pos c5] at H
     have c5b0 : decide (0 ≤ x6_1) = true := decide_eq_true c5
     clear c5
     by_cases c6 : (!((((rd_T38 l0 x6_1).f0.f0).toList) == a1_0.toList) || (!((((rd_T38 l0 x6_1).f0.f1).toList) == a1_1.toList))) = true
     ·
      rw [if_pos c6] at H
      have c6b0 : (!((((rd_T38 l0 x6_1).f0.f0).toList) == a1_0.toList) || (!((((rd_T38 l0 x6_1).f0.f1).toList) == a1_1.toList))) = true := c6
      clear c6
      replace H := Option.bind_eq_some_iff.mp H
      obtain ⟨t489, A70, H⟩ := H
      replace H : (if t489 = true then (if x5_1.length < 4398046511104 then (chancelref9_Below.l0 k1 l0 (x5_1 ++ [(⟨(rd_T38 l0 x6_1).f0.f0, (rd_T38 l0 x6_1).f0.f1⟩ : S28)]) (wrap64 (x6_1 + 1)) a1_0 a1_1) else (none)) else (chancelref9_Below.l0 k1 l0 x5_1 (wrap64 (x6_1 + 1)) a1_0 a1_1)) = some r := H
      have A7 := aZ_ A70
      clear A70
      by_cases c8 : t489 = true
      ·
       subst c8
       have H1 : (if x5_1.length < 4398046511104 then (chancelref9_Below.l0 k1 l0 (x5_1 ++ [(⟨(rd_T38 l0 x6_1).f0.f0, (rd_T38 l0 x6_1).f0.f1⟩ : S28)]) (wrap64 (x6_1 + 1)) a1_0 a1_1) else (none)) = some r := by rw [if_pos rfl] at H; exact H
       clear H
       have H := H1
       clear H1
       by_cases c9 : x5_1.length < 4398046511104
       ·
        rw [if_pos c9] at H
        have LMc9 := aZ_ c9
        clear c9
        obtain ⟨y491, hy491⟩ : ∃ y_ : List (S28), y_ = (x5_1 ++ [(⟨(rd_T38 l0 x6_1).f0.f0, (rd_T38 l0 x6_1).f0.f1⟩ : S28)]) := ⟨_, rfl⟩
        replace H : (chancelref9_Below.l0 k1 l0 y491 (wrap64 (x6_1 + 1)) a1_0 a1_1) = some r := by first | (rw [hy491]; with_reducible exact H) | (have H2_ := (Option.bind_some _ _).symm.trans H; rw [hy491]; with_reducible exact H2_) | (have H2_ := (Option.bind_some _ _).symm.trans H; with_reducible exact H2_) | with_reducible exact H | (rw [hy491]; exact H) | exact H
        have Ny491 := aZ_ hy491
        clear hy491
        have H' := aZ_ H
        clear H
        try go_wp2
        replace HO_5 := aZ_ (Kd.R_drew HO_5.out)
        replace BK486 := aZ_ (blk_drew BK486.out)
        replace HB := aZ_ (below_drew1 HB.out)
        have p487 : 0 ≤ (x6_1 : Int) := of_decide_eq_true asm_
        have q487 : x6_1 < (l0.length : Int) := of_decide_eq_true asm_
        obtain ⟨ad487, A487_2, c487_2, A487_3, c487_3, e487, hx487_0, hx487_1, hx487_2, hx487_3, hl487_2, hi487_2, hl487_3, hi487_3⟩ := at_T38 HR0.out x6_1 p487 q487
        have hw487_3 := hx487_3
        have hw487_2 := hx487_2
        have hw487_1 := hx487_1
        have hw487_0 := hx487_0
        cases e487
        replace hx487_0 := (hbc HB.out hx487_0 :)
        replace hx487_1 := (hbc HB.out hx487_1 :)
        replace hx487_2 := (hbc HB.out hx487_2 :)
        replace hx487_3 := (hbc HB.out hx487_3 :)
        have HR487_2 := aZ_ hi487_2
        have HC487_2 := aZ_ hl487_2
        clear hi487_2 hl487_2
        have HR487_3 := aZ_ hi487_3
        have HC487_3 := aZ_ hl487_3
        clear hi487_3 hl487_3
        replace p487 := eq_true p487
        replace q487 := eq_true q487
        have p488 : 0 ≤ (x6_1 : Int) := of_decide_eq_true asm_
        have q488 : x6_1 < (l0.length : Int) := of_decide_eq_true asm_
        obtain ⟨ad488, A488_2, c488_2, A488_3, c488_3, e488, hx488_0, hx488_1, hx488_2, hx488_3, hl488_2, hi488_2, hl488_3, hi488_3⟩ := at_T38 HR0.out x6_1 p488 q488
        have hw488_3 := hx488_3
        have hw488_2 := hx488_2
        have hw488_1 := hx488_1
        have hw488_0 := hx488_0
        obtain rfl : ad487 = ad488 := (by injection e488)
        replace hx488_0 := (hbc HB.out hx488_0 :)
        replace hx488_1 := (hbc HB.out hx488_1 :)
        replace hx488_2 := (hbc HB.out hx488_2 :)
        replace hx488_3 := (hbc HB.out hx488_3 :)
        have HR488_2 := aZ_ hi488_2
        have HC488_2 := aZ_ hl488_2
        clear hi488_2 hl488_2
        have HR488_3 := aZ_ hi488_3
        have HC488_3 := aZ_ hl488_3
        clear hi488_3 hl488_3
        replace p488 := eq_true p488
        replace q488 := eq_true q488
        have ea_ := Option.some.inj (hx487_2.symm.trans hx488_2)
        injection ea_ with ea_ en_ ec_
        subst ea_
        subst ec_
        clear en_
        have ea_ := Option.some.inj (hx487_3.symm.trans hx488_3)
        injection ea_ with ea_ en_ ec_
        subst ea_
        subst ec_
        clear en_
        refine start_ (n := 17) (S := fun w' => w'.cell? ⟨gb486, 0, none⟩ = some (.string a1_0) ∧ w'.cell? ⟨gb486, 1, none⟩ = some (.string a1_1) ∧ w'.cell? (ad487.add ((x6_1).toNat * 4)) = some (.string ((rd_T38 l0 x6_1).f0.f0)) ∧ w'.cell? ⟨(ad487.add ((x6_1).toNat * 4)).block, (ad487.add ((x6_1).toNat * 4)).off + 1, none⟩ = some (.string ((rd_T38 l0 x6_1).f0.f1)) ∧ w'.cell? ⟨(ad487.add ((x6_1).toNat * 4)).block, (ad487.add ((x6_1).toNat * 4)).off + 2, none⟩ = some (.slice A487_2 ((rd_T38 l0 x6_1).f1).length c487_2) ∧ w'.cell? ⟨(ad487.add ((x6_1).toNat * 4)).block, (ad487.add ((x6_1).toNat * 4)).off + 3, none⟩ = some (.slice A487_3 ((rd_T38 l0 x6_1).f2).length c487_3) ∧ w'.cell? (ad487.add ((x6_1).toNat * 4)) = some (.string ((rd_T38 l0 x6_1).f0.f0)) ∧ w'.cell? ⟨(ad487.add ((x6_1).toNat * 4)).block, (ad487.add ((x6_1).toNat * 4)).off + 1, none⟩ = some (.string ((rd_T38 l0 x6_1).f0.f1)) ∧ w'.cell? ⟨(ad487.add ((x6_1).toNat * 4)).block, (ad487.add ((x6_1).toNat * 4)).off + 2, none⟩ = some (.slice A487_2 ((rd_T38 l0 x6_1).f1).length c487_2) ∧ w'.cell? ⟨(ad487.add ((x6_1).toNat * 4)).block, (ad487.add ((x6_1).toNat * 4)).off + 3, none⟩ = some (.slice A487_3 ((rd_T38 l0 x6_1).f2).length c487_3)) (ds := []) #[false, false, false, false, false, false, false, false, false, false, false, false, false, false, false, false, false] (by kernel_rfl) rfl rfl ⟨(blk_cell BK486.out 0).trans rfl, (blk_cell BK486.out 1).trans rfl, ((hbc HB.out hw487_0 :)), ((hbc HB.out hw487_1 :)), ((hbc HB.out hw487_2 :)), ((hbc HB.out hw487_3 :)), ((hbc HB.out hw488_0 :)), ((hbc HB.out hw488_1 :)), ((hbc HB.out hw488_2 :)), ((hbc HB.out hw488_3 :))⟩ (fun hHeld => ?_); refine with_tabW chancelref9_Below.tab5 chancelref9_Below.bits5 (fun HT_ HW_ => ?_)
        generalize wr.drew = w10 at HO_5 BK486 HB HR487_2 HR487_3 HR488_2 HR488_3 hx487_0 hx487_1 hx487_2 hx487_3 hx488_0 hx488_1 hx488_2 hx488_3 hHeld ⊢
        refine pS_ 0 13 (fa 17 1) HT_ ?_
        refine pS_ 1 14 (fa 17 3) HT_ ?_
        refine pS_ 2 15 (fa 17 7) HT_ ?_
        refine pS_ 3 16 (fa 17 15) HT_ ?_
        refine tS_ 4 17 (fa 17 31) HT_ HW_ hHeld ?_
        refine tS_ 5 18 (fa 17 63) HT_ HW_ hHeld ?_
        refine pS_ 6 19 (fa 17 127) HT_ ?_
        refine pS_ 7 20 (fa 17 255) HT_ ?_
        refine pS_ 8 21 (fa 17 511) HT_ ?_
        refine pS_ 9 22 (fa 17 1023) HT_ ?_
        refine pS_ 10 23 (fa 17 2047) HT_ ?_
        refine pS_ 11 24 (fa 17 4095) HT_ ?_
        refine pS_ 12 25 (fa 17 8191) HT_ ?_
        refine tS_ 13 26 (fa 17 16383) HT_ HW_ hHeld ?_
        refine tS_ 14 27 (fa 17 32767) HT_ HW_ hHeld ?_
        refine one_ (i := 15) (N := some 28) #[true, true, true, true, true, true, true, true, true, true, true, true, true, true, true, true, false] rfl rfl (one_of HT_.out (by kernel_rfl)) (by decide) (fun K hK => ?_)
        refine goes_ Try.func17 (by kernel_rfl) rfl #[.slice (some ad487) l0.length c0, .agg #[.string ((rd_T38 l0 x6_1).f0.f0), .string ((rd_T38 l0 x6_1).f0.f1)], .agg #[.string a1_0, .string a1_1]] (by rfl) rfl rfl gm_ ?_
        with_reducible refine (chancelref9_In.calls k1 _ _ l0 ((rd_T38 l0 x6_1).f0.f0) ((rd_T38 l0 x6_1).f0.f1) a1_0 a1_1 true _ ?side1 ?side2 A7.out).mono ?_
        (case side1 => exact kC (Kd.C_below HR0.out HB.out))
        (case side2 => exact HC0.out)
        rintro e w11 ⟨rfl, hb⟩
        refine ⟨_, rfl, ?_⟩
        replace HO_5 := aZ_ (Kd.R_below (kR HO_5) hb)
        replace BK486 := aZ_ (blk_below (g := gb486) (o := .cells #[.string a1_0, .string a1_1] 28 (0, 0)) (bk BK486) hb)
        replace HB := aZ_ (below_step (bl1 HB GE486) hb)
        (try clear hb)
        (try clear hb2)
        (try clear hk)
        (try clear hi)
        refine hK.out _ _ ⟨(blk_cell BK486.out 0).trans rfl, (blk_cell BK486.out 1).trans rfl, ((hbc HB.out hw487_0 :)), ((hbc HB.out hw487_1 :)), ((hbc HB.out hw487_2 :)), ((hbc HB.out hw487_3 :)), ((hbc HB.out hw488_0 :)), ((hbc HB.out hw488_1 :)), ((hbc HB.out hw488_2 :)), ((hbc HB.out hw488_3 :))⟩ (fun hHeld => ?_)
        clear hK K
        refine norm_ (a' := ?_) ?_ ?_
        rotate_left
        ·
         show Act.put _ (some 28) _ = _
         simp only [Act.put, List.setIfInBounds_toArray, List.set_cons_zero, List.set_cons_succ, i64_w, i32_w]
         rfl
        refine pS_ 16 29 (fa 17 131071) HT_ ?_
        refine done_ (done_of HT_.out (by kernel_rfl)) ?_
        have p490 : 0 ≤ (x6_1 : Int) := of_decide_eq_true asm_
        have q490 : x6_1 < (l0.length : Int) := of_decide_eq_true asm_
        obtain ⟨ad490, A490_2, c490_2, A490_3, c490_3, e490, hx490_0, hx490_1, hx490_2, hx490_3, hl490_2, hi490_2, hl490_3, hi490_3⟩ := at_T38 HR0.out x6_1 p490 q490
        obtain rfl : ad487 = ad490 := (by injection e490)
        replace hx490_0 := (hbc HB.out hx490_0 :)
        replace hx490_1 := (hbc HB.out hx490_1 :)
        replace hx490_2 := (hbc HB.out hx490_2 :)
        replace hx490_3 := (hbc HB.out hx490_3 :)
        have HR490_2 := aZ_ hi490_2
        have HC490_2 := aZ_ hl490_2
        clear hi490_2 hl490_2
        have HR490_3 := aZ_ hi490_3
        have HC490_3 := aZ_ hl490_3
        clear hi490_3 hl490_3
        replace p490 := eq_true p490
        replace q490 := eq_true q490
        try go_wp2_with (first | ((with_reducible refine gate_builtin (b := .append) (xs := #[.tmp 30, .tmp 36]) rfl ?_); at_builtin; refine Kd.R_append k28 (w0 := w) w.heap.size rfl (.tmp 30) (.tmp 36) 30 28 (.agg #[(.string ⟨#[]⟩), (.string ⟨#[]⟩)]) 32 rfl Try.underlying30 info28 rfl (by decide) (by omega) u5 x5_1 (⟨(rd_T38 l0 x6_1).f0.f0, (rd_T38 l0 x6_1).f0.f1⟩ : S28) [.string ((rd_T38 l0 x6_1).f0.f0), .string ((rd_T38 l0 x6_1).f0.f1)] (fun k_ => k_ ≠ gb486) (fun _ => False) rfl rfl ?aP (fun _ hk => hk.elim) ?aF ?aO ?aB ?aS ?aL ?_; (case aP => exact k28_mkM _ _ _ (⟨(rd_T38 l0 x6_1).f0.f0, (rd_T38 l0 x6_1).f0.f1⟩ : S28)); (case aB => exact (bl1 HB GE486)); (case aF => exact (fun k_ hk => Kd.freshB (g := gb486) (o := .cells #[.string a1_0, .string a1_1] 28 (0, 0)) (bk BK486) k_ hk)); (case aO => exact (kR HO_5)); (case aS => exact (below_size (bl1 HB GE486))); (case aL => have := LMc9.out; omega); intro v492 w12 ho hb hg hat; rw [← Ny491.out] at ho; replace BK486 := aZ_ (blk_grown (g := gb486) (o := .cells #[.string a1_0, .string a1_1] 28 (0, 0)) (bk BK486) hg (Kd.R_away HO_5.out (fun _ hk => hk))); replace HB := aZ_ (hb); have HO493 := aZ_ (ho); clear HO_5; clear ho hb hg hat))
        go_roundg k1
        case measure => have := HK1.out; omega
        case rel => exact ⟨(y491), (wrap64 (x6_1 + 1)), rf_, H', ⟨by have := HK1.out; omega⟩, ⟨kR HO493⟩, ⟨bk BK486⟩, ⟨bl1 HB GE486⟩⟩
       ·
        rw [if_neg c9] at H
        exact absurd H (by simp)
      ·
       replace c8 := Bool.eq_false_iff.mpr c8
       subst c8
       have H1 : (chancelref9_Below.l0 k1 l0 x5_1 (wrap64 (x6_1 + 1)) a1_0 a1_1) = some r := by rw [if_neg (show ¬ (false = true) by decide)] at H; exact H
       clear H
       have H := H1
       clear H1
       have H' := aZ_ H
       clear H
       try go_wp2
       replace HO_5 := aZ_ (Kd.R_drew HO_5.out)
       replace BK486 := aZ_ (blk_drew BK486.out)
       replace HB := aZ_ (below_drew1 HB.out)
       have p487 : 0 ≤ (x6_1 : Int) := of_decide_eq_true asm_
       have q487 : x6_1 < (l0.length : Int) := of_decide_eq_true asm_
       obtain ⟨ad487, A487_2, c487_2, A487_3, c487_3, e487, hx487_0, hx487_1, hx487_2, hx487_3, hl487_2, hi487_2, hl487_3, hi487_3⟩ := at_T38 HR0.out x6_1 p487 q487
       have hw487_3 := hx487_3
       have hw487_2 := hx487_2
       have hw487_1 := hx487_1
       have hw487_0 := hx487_0
       cases e487
       replace hx487_0 := (hbc HB.out hx487_0 :)
       replace hx487_1 := (hbc HB.out hx487_1 :)
       replace hx487_2 := (hbc HB.out hx487_2 :)
       replace hx487_3 := (hbc HB.out hx487_3 :)
       have HR487_2 := aZ_ hi487_2
       have HC487_2 := aZ_ hl487_2
       clear hi487_2 hl487_2
       have HR487_3 := aZ_ hi487_3
       have HC487_3 := aZ_ hl487_3
       clear hi487_3 hl487_3
       replace p487 := eq_true p487
       replace q487 := eq_true q487
       have p488 : 0 ≤ (x6_1 : Int) := of_decide_eq_true asm_
       have q488 : x6_1 < (l0.length : Int) := of_decide_eq_true asm_
       obtain ⟨ad488, A488_2, c488_2, A488_3, c488_3, e488, hx488_0, hx488_1, hx488_2, hx488_3, hl488_2, hi488_2, hl488_3, hi488_3⟩ := at_T38 HR0.out x6_1 p488 q488
       have hw488_3 := hx488_3
       have hw488_2 := hx488_2
       have hw488_1 := hx488_1
       have hw488_0 := hx488_0
       obtain rfl : ad487 = ad488 := (by injection e488)
       replace hx488_0 := (hbc HB.out hx488_0 :)
       replace hx488_1 := (hbc HB.out hx488_1 :)
       replace hx488_2 := (hbc HB.out hx488_2 :)
       replace hx488_3 := (hbc HB.out hx488_3 :)
       have HR488_2 := aZ_ hi488_2
       have HC488_2 := aZ_ hl488_2
       clear hi488_2 hl488_2
       have HR488_3 := aZ_ hi488_3
       have HC488_3 := aZ_ hl488_3
       clear hi488_3 hl488_3
       replace p488 := eq_true p488
       replace q488 := eq_true q488
       have ea_ := Option.some.inj (hx487_2.symm.trans hx488_2)
       injection ea_ with ea_ en_ ec_
       subst ea_
       subst ec_
       clear en_
       have ea_ := Option.some.inj (hx487_3.symm.trans hx488_3)
       injection ea_ with ea_ en_ ec_
       subst ea_
       subst ec_
       clear en_
       refine start_ (n := 17) (S := fun w' => w'.cell? ⟨gb486, 0, none⟩ = some (.string a1_0) ∧ w'.cell? ⟨gb486, 1, none⟩ = some (.string a1_1) ∧ w'.cell? (ad487.add ((x6_1).toNat * 4)) = some (.string ((rd_T38 l0 x6_1).f0.f0)) ∧ w'.cell? ⟨(ad487.add ((x6_1).toNat * 4)).block, (ad487.add ((x6_1).toNat * 4)).off + 1, none⟩ = some (.string ((rd_T38 l0 x6_1).f0.f1)) ∧ w'.cell? ⟨(ad487.add ((x6_1).toNat * 4)).block, (ad487.add ((x6_1).toNat * 4)).off + 2, none⟩ = some (.slice A487_2 ((rd_T38 l0 x6_1).f1).length c487_2) ∧ w'.cell? ⟨(ad487.add ((x6_1).toNat * 4)).block, (ad487.add ((x6_1).toNat * 4)).off + 3, none⟩ = some (.slice A487_3 ((rd_T38 l0 x6_1).f2).length c487_3) ∧ w'.cell? (ad487.add ((x6_1).toNat * 4)) = some (.string ((rd_T38 l0 x6_1).f0.f0)) ∧ w'.cell? ⟨(ad487.add ((x6_1).toNat * 4)).block, (ad487.add ((x6_1).toNat * 4)).off + 1, none⟩ = some (.string ((rd_T38 l0 x6_1).f0.f1)) ∧ w'.cell? ⟨(ad487.add ((x6_1).toNat * 4)).block, (ad487.add ((x6_1).toNat * 4)).off + 2, none⟩ = some (.slice A487_2 ((rd_T38 l0 x6_1).f1).length c487_2) ∧ w'.cell? ⟨(ad487.add ((x6_1).toNat * 4)).block, (ad487.add ((x6_1).toNat * 4)).off + 3, none⟩ = some (.slice A487_3 ((rd_T38 l0 x6_1).f2).length c487_3)) (ds := []) #[false, false, false, false, false, false, false, false, false, false, false, false, false, false, false, false, false] (by kernel_rfl) rfl rfl ⟨(blk_cell BK486.out 0).trans rfl, (blk_cell BK486.out 1).trans rfl, ((hbc HB.out hw487_0 :)), ((hbc HB.out hw487_1 :)), ((hbc HB.out hw487_2 :)), ((hbc HB.out hw487_3 :)), ((hbc HB.out hw488_0 :)), ((hbc HB.out hw488_1 :)), ((hbc HB.out hw488_2 :)), ((hbc HB.out hw488_3 :))⟩ (fun hHeld => ?_); refine with_tabW chancelref9_Below.tab5 chancelref9_Below.bits5 (fun HT_ HW_ => ?_)
       generalize wr.drew = w13 at HO_5 BK486 HB HR487_2 HR487_3 HR488_2 HR488_3 hx487_0 hx487_1 hx487_2 hx487_3 hx488_0 hx488_1 hx488_2 hx488_3 hHeld ⊢
       refine pS_ 0 13 (fa 17 1) HT_ ?_
       refine pS_ 1 14 (fa 17 3) HT_ ?_
       refine pS_ 2 15 (fa 17 7) HT_ ?_
       refine pS_ 3 16 (fa 17 15) HT_ ?_
       refine tS_ 4 17 (fa 17 31) HT_ HW_ hHeld ?_
       refine tS_ 5 18 (fa 17 63) HT_ HW_ hHeld ?_
       refine pS_ 6 19 (fa 17 127) HT_ ?_
       refine pS_ 7 20 (fa 17 255) HT_ ?_
       refine pS_ 8 21 (fa 17 511) HT_ ?_
       refine pS_ 9 22 (fa 17 1023) HT_ ?_
       refine pS_ 10 23 (fa 17 2047) HT_ ?_
       refine pS_ 11 24 (fa 17 4095) HT_ ?_
       refine pS_ 12 25 (fa 17 8191) HT_ ?_
       refine tS_ 13 26 (fa 17 16383) HT_ HW_ hHeld ?_
       refine tS_ 14 27 (fa 17 32767) HT_ HW_ hHeld ?_
       refine one_ (i := 15) (N := some 28) #[true, true, true, true, true, true, true, true, true, true, true, true, true, true, true, true, false] rfl rfl (one_of HT_.out (by kernel_rfl)) (by decide) (fun K hK => ?_)
       refine goes_ Try.func17 (by kernel_rfl) rfl #[.slice (some ad487) l0.length c0, .agg #[.string ((rd_T38 l0 x6_1).f0.f0), .string ((rd_T38 l0 x6_1).f0.f1)], .agg #[.string a1_0, .string a1_1]] (by rfl) rfl rfl gm_ ?_
       with_reducible refine (chancelref9_In.calls k1 _ _ l0 ((rd_T38 l0 x6_1).f0.f0) ((rd_T38 l0 x6_1).f0.f1) a1_0 a1_1 false _ ?side1 ?side2 A7.out).mono ?_
       (case side1 => exact kC (Kd.C_below HR0.out HB.out))
       (case side2 => exact HC0.out)
       rintro e w14 ⟨rfl, hb⟩
       refine ⟨_, rfl, ?_⟩
       replace HO_5 := aZ_ (Kd.R_below (kR HO_5) hb)
       replace BK486 := aZ_ (blk_below (g := gb486) (o := .cells #[.string a1_0, .string a1_1] 28 (0, 0)) (bk BK486) hb)
       replace HB := aZ_ (below_step (bl1 HB GE486) hb)
       (try clear hb)
       (try clear hb2)
       (try clear hk)
       (try clear hi)
       refine hK.out _ _ ⟨(blk_cell BK486.out 0).trans rfl, (blk_cell BK486.out 1).trans rfl, ((hbc HB.out hw487_0 :)), ((hbc HB.out hw487_1 :)), ((hbc HB.out hw487_2 :)), ((hbc HB.out hw487_3 :)), ((hbc HB.out hw488_0 :)), ((hbc HB.out hw488_1 :)), ((hbc HB.out hw488_2 :)), ((hbc HB.out hw488_3 :))⟩ (fun hHeld => ?_)
       clear hK K
       refine norm_ (a' := ?_) ?_ ?_
       rotate_left
       ·
        show Act.put _ (some 28) _ = _
        simp only [Act.put, List.setIfInBounds_toArray, List.set_cons_zero, List.set_cons_succ, i64_w, i32_w]
        rfl
       refine pS_ 16 29 (fa 17 131071) HT_ ?_
       refine done_ (done_of HT_.out (by kernel_rfl)) ?_
       try go_wp2
       go_roundg k1
       case measure => have := HK1.out; omega
       case rel => exact ⟨(x5_1), (wrap64 (x6_1 + 1)), rf_, H', ⟨by have := HK1.out; omega⟩, ⟨kR HO_5⟩, ⟨bk BK486⟩, ⟨bl1 HB GE486⟩⟩
     ·
      rw [if_neg c6] at H
      have c6b0 : (!((((rd_T38 l0 x6_1).f0.f0).toList) == a1_0.toList) || (!((((rd_T38 l0 x6_1).f0.f1).toList) == a1_1.toList))) = false := by simpa using c6
      clear c6
      have H' := aZ_ H
      clear H
      try go_wp2
      replace HO_5 := aZ_ (Kd.R_drew HO_5.out)
      replace BK486 := aZ_ (blk_drew BK486.out)
      replace HB := aZ_ (below_drew1 HB.out)
      have p487 : 0 ≤ (x6_1 : Int) := of_decide_eq_true asm_
      have q487 : x6_1 < (l0.length : Int) := of_decide_eq_true asm_
      obtain ⟨ad487, A487_2, c487_2, A487_3, c487_3, e487, hx487_0, hx487_1, hx487_2, hx487_3, hl487_2, hi487_2, hl487_3, hi487_3⟩ := at_T38 HR0.out x6_1 p487 q487
      have hw487_3 := hx487_3
      have hw487_2 := hx487_2
      have hw487_1 := hx487_1
      have hw487_0 := hx487_0
      cases e487
      replace hx487_0 := (hbc HB.out hx487_0 :)
      replace hx487_1 := (hbc HB.out hx487_1 :)
      replace hx487_2 := (hbc HB.out hx487_2 :)
      replace hx487_3 := (hbc HB.out hx487_3 :)
      have HR487_2 := aZ_ hi487_2
      have HC487_2 := aZ_ hl487_2
      clear hi487_2 hl487_2
      have HR487_3 := aZ_ hi487_3
      have HC487_3 := aZ_ hl487_3
      clear hi487_3 hl487_3
      replace p487 := eq_true p487
      replace q487 := eq_true q487
      refine start_ (n := 17) (S := fun w' => w'.cell? ⟨gb486, 0, none⟩ = some (.string a1_0) ∧ w'.cell? ⟨gb486, 1, none⟩ = some (.string a1_1) ∧ w'.cell? (ad487.add ((x6_1).toNat * 4)) = some (.string ((rd_T38 l0 x6_1).f0.f0)) ∧ w'.cell? ⟨(ad487.add ((x6_1).toNat * 4)).block, (ad487.add ((x6_1).toNat * 4)).off + 1, none⟩ = some (.string ((rd_T38 l0 x6_1).f0.f1)) ∧ w'.cell? ⟨(ad487.add ((x6_1).toNat * 4)).block, (ad487.add ((x6_1).toNat * 4)).off + 2, none⟩ = some (.slice A487_2 ((rd_T38 l0 x6_1).f1).length c487_2) ∧ w'.cell? ⟨(ad487.add ((x6_1).toNat * 4)).block, (ad487.add ((x6_1).toNat * 4)).off + 3, none⟩ = some (.slice A487_3 ((rd_T38 l0 x6_1).f2).length c487_3)) (ds := []) #[false, false, false, false, false, false, false, false, false, false, false, false, false, false, false, false, false] (by kernel_rfl) rfl rfl ⟨(blk_cell BK486.out 0).trans rfl, (blk_cell BK486.out 1).trans rfl, ((hbc HB.out hw487_0 :)), ((hbc HB.out hw487_1 :)), ((hbc HB.out hw487_2 :)), ((hbc HB.out hw487_3 :))⟩ (fun hHeld => ?_); refine with_tabW chancelref9_Below.tab5 chancelref9_Below.bits5 (fun HT_ HW_ => ?_)
      generalize wr.drew = w15 at HO_5 BK486 HB HR487_2 HR487_3 hx487_0 hx487_1 hx487_2 hx487_3 hHeld ⊢
      refine pS_ 0 13 (fa 17 1) HT_ ?_
      refine pS_ 1 14 (fa 17 3) HT_ ?_
      refine pS_ 2 15 (fa 17 7) HT_ ?_
      refine pS_ 3 16 (fa 17 15) HT_ ?_
      refine tS_ 4 17 (fa 17 31) HT_ HW_ hHeld ?_
      refine tS_ 5 18 (fa 17 63) HT_ HW_ hHeld ?_
      refine pS_ 6 19 (fa 17 127) HT_ ?_
      refine pS_ 7 20 (fa 17 255) HT_ ?_
      refine pU_ 8 21 (fa 17 511) HT_ ?_
      refine pU_ 9 22 (fa 17 1023) HT_ ?_
      refine pU_ 10 23 (fa 17 2047) HT_ ?_
      refine pU_ 11 24 (fa 17 4095) HT_ ?_
      refine pU_ 12 25 (fa 17 8191) HT_ ?_
      refine pU_ 13 26 (fa 17 16383) HT_ ?_
      refine pU_ 14 27 (fa 17 32767) HT_ ?_
      refine pU_ 15 28 (fa 17 65535) HT_ ?_
      refine pS_ 16 29 (fa 17 131071) HT_ ?_
      refine done_ (done_of HT_.out (by kernel_rfl)) ?_
      try go_wp2
      go_roundg k1
      case measure => have := HK1.out; omega
      case rel => exact ⟨(x5_1), (wrap64 (x6_1 + 1)), rf_, H', ⟨by have := HK1.out; omega⟩, ⟨kR HO_5⟩, ⟨bk BK486⟩, ⟨bl1 HB GE486⟩⟩
    ·
     rw [if_neg c5] at H
     exact absurd H (by simp)
   ·
    rw [if_neg c4] at H
    have c4b0 : decide (x6_1 < (l0.length : Int)) = false := decide_eq_false c4
    clear c4
    obtain rfl := Option.some.inj H
    go_wp2
    go_ret
    exact ⟨_, by first | rfl | (simp [errW_none, errW_some] <;> rfl) | (simp [*, errW_none, errW_some] <;> rfl), by (with_reducible repeat (first | apply Kd.R_alloc | apply Kd.R_drewN | apply Kd.R_drew)); exact Kd.R_mono HO_5.out (fun _ hk => trivial), bl1 HB GE486⟩

/-! ### ents_Put: function 33, given -/
/-- A row with an entity put into it. -/
def ents_Put.f (l0 : List S38) (a1_0 a1_1 : ByteArray) (l1_2 : List S28) (l1_3 : List S58) : Option (List S38) :=
 if l0.length ≤ 999 ∧ l0.all GT.smE = true ∧ GT.smE ⟨⟨a1_0, a1_1⟩, l1_2, l1_3⟩ = true then some (GT.putF l0 ⟨⟨a1_0, a1_1⟩, l1_2, l1_3⟩) else none
theorem ents_Put.calls (A0 : Option Addr) (c0 : Nat) (l0 : List S38) (a1_0 : ByteArray) (a1_1 : ByteArray) (A1_2 : Option Addr) (c1_2 : Nat) (l1_2 : List S28) (A1_3 : Option Addr) (c1_3 : Nat) (l1_3 : List S58) (r : List S38) (w : World) (hr0 : Kd.C k38 w A0 l0.length l0) (hc0 : l0.length ≤ c0) (hr1_2 : Kd.C k28 w A1_2 l1_2.length l1_2) (hc1_2 : l1_2.length ≤ c1_2) (hr1_3 : Kd.C k58 w A1_3 l1_3.length l1_3) (hc1_3 : l1_3.length ≤ c1_3) (h : ents_Put.f l0 a1_0 a1_1 l1_2 l1_3 = some r) :
  Calls Try.prog 33 #[.slice A0 l0.length c0, .agg #[.string a1_0, .string a1_1, .slice A1_2 l1_2.length c1_2, .slice A1_3 l1_3.length c1_3]] w fun e w' => ∃ v0_ : Value, e = .returned (v0_) ∧ Kd.V k38 38 w' w.heap.size (fun k_ => w.heap.size ≤ k_) v0_ r ∧ Below w.heap.size w w' := by
 unfold ents_Put.f at h
 by_cases hs : l0.length ≤ 999 ∧ l0.all GT.smE = true ∧ GT.smE ⟨⟨a1_0, a1_1⟩, l1_2, l1_3⟩ = true
 ·
  rw [if_pos hs] at h
  obtain rfl := Option.some.inj h
  exact GT.put_calls l0 hs.1 (fun x hx => List.all_eq_true.1 hs.2.1 x hx) ⟨⟨a1_0, a1_1⟩, l1_2, l1_3⟩ hs.2.2 A0 c0 A1_2 c1_2 A1_3 c1_3 w hc0 hr0 hc1_2 hr1_2 hc1_3 hr1_3
 ·
  rw [if_neg hs] at h
  exact absurd h (by simp)

end Go.Proofs.Ytelibndkkokadaa.GB
namespace Go.Proofs.Ytelibndkkokadaa.GB
open Go.RowKit Go.Proofs.YtelibndkkokadaaW.PrintWords Go.Proofs.YtelibndkkokadaaW.PrintLast Go.Proofs.Ytelibndkkokadaa.HandV Go.Proofs.YtelibndkkokadaaW.PrintMore
attribute [local go_sem] max2_int min2_int max_two min_two max_three min_three max_four min_four   -- for this text's walks alone
set_option linter.unusedVariables false
set_option linter.unusedSimpArgs false

-- BREAK
/-! ### above_Circle: function 23, given -/
/-- Would one be above itself? -/
def above_Circle.f (l0 : List S38) (a1_0 a1_1 : ByteArray) (l2 : List S28) : Option Bool :=
 if GA.okL l0 = true ∧ GA.okU ⟨a1_0, a1_1⟩ = true ∧ l2.all GA.okU = true ∧ l2.length ≤ 1000 then some (GA.circleF l0 ⟨a1_0, a1_1⟩ l2) else none
theorem above_Circle.calls (A0 : Option Addr) (c0 : Nat) (l0 : List S38) (a1_0 : ByteArray) (a1_1 : ByteArray) (A2 : Option Addr) (c2 : Nat) (l2 : List S28) (r : Bool) (w : World) (hr0 : Kd.C k38 w A0 l0.length l0) (hc0 : l0.length ≤ c0) (hr2 : Kd.C k28 w A2 l2.length l2) (hc2 : l2.length ≤ c2) (h : above_Circle.f l0 a1_0 a1_1 l2 = some r) :
  Calls Try.prog 23 #[.slice A0 l0.length c0, .agg #[.string a1_0, .string a1_1], .slice A2 l2.length c2] w fun e w' => e = .returned (.bool r) ∧ Below w.heap.size w w' := by
 unfold above_Circle.f at h
 by_cases hs : GA.okL l0 = true ∧ GA.okU ⟨a1_0, a1_1⟩ = true ∧ l2.all GA.okU = true ∧ l2.length ≤ 1000
 ·
  rw [if_pos hs] at h
  obtain rfl := Option.some.inj h
  exact GA.circle_calls l0 hs.1 ⟨a1_0, a1_1⟩ hs.2.1 l2 (fun x hx => List.all_eq_true.1 hs.2.2.1 x hx) hs.2.2.2 A0 c0 A2 c2 w hc0 hr0 hc2 hr2
 ·
  rw [if_neg hs] at h
  exact absurd h (by simp)

/-! ### chancelref9_Circle: function 24 -/
def chancelref9_Circle.l0 : Nat → List (S28) → List (S38) → Int → ByteArray → ByteArray → Option (Bool)
 | 0, _, _, _, _, _ => none
 | k + 1, x2, x7, x8, x495000, x495001 => if x8 < (x2.length : Int) then (if 0 ≤ x8 then ((chancelref9_In.f k x7 ((rd_T28 x2 x8).f0) ((rd_T28 x2 x8).f1) x495000 x495001).bind fun t499 => (if t499 = true then (some true) else (chancelref9_Circle.l0 k x2 x7 (wrap64 (x8 + 1)) x495000 x495001))) else (none)) else (some false)
def chancelref9_Circle.f (k : Nat) (l0 : List (S38)) (a1_0 : ByteArray) (a1_1 : ByteArray) (l2 : List (S28)) : Option (Bool) := (chancelref8_Drop.f k l0 a1_0 a1_1).bind fun t495 => (chancelref9_Circle.l0 k l2 t495 0 a1_0 a1_1)
theorem chancelref9_Circle.mono_l : ∀ k, (∀ y0 y1 y2 y3 y4, LeO (chancelref9_Circle.l0 k y0 y1 y2 y3 y4) (chancelref9_Circle.l0 (k + 1) y0 y1 y2 y3 y4))
 | 0 => fun _ _ _ _ _ r h => by simp [chancelref9_Circle.l0] at h
 | k + 1 => by
  have ih0 := chancelref9_Circle.mono_l k
  ·
   intro y0 y1 y2 y3 y4
   unfold chancelref9_Circle.l0
   repeat' first
   | (with_reducible exact ih0 _ _ _ _ _)
   | (with_reducible exact chancelref8_Drop.mono _ _ _ _)
   | (with_reducible exact chancelref9_In.mono _ _ _ _ _ _)
   | (with_reducible exact LeO.refl _)
   | (with_reducible exact LeO.none _)
   | (with_reducible refine LeO.ite ?_ ?_)
   | (with_reducible refine LeO.bind ?_ (fun _ => ?_))
   | exact ih0 _ _ _ _ _
   | exact chancelref8_Drop.mono _ _ _ _
   | exact chancelref9_In.mono _ _ _ _ _ _
   | exact LeO.none _
   | refine LeO.ite ?_ ?_
   | refine LeO.bind ?_ (fun _ => ?_)
theorem chancelref9_Circle.mono : ∀ a0 a1 a2 a3 k, LeO (chancelref9_Circle.f k a0 a1 a2 a3) (chancelref9_Circle.f (k + 1) a0 a1 a2 a3) := by
 intro a0 a1 a2 a3 k
 have ih0 := chancelref9_Circle.mono_l k
 unfold chancelref9_Circle.f
 repeat' first
   | (with_reducible exact ih0 _ _ _ _ _)
   | (with_reducible exact chancelref8_Drop.mono _ _ _ _)
   | (with_reducible exact chancelref9_In.mono _ _ _ _ _ _)
   | (with_reducible exact LeO.refl _)
   | (with_reducible exact LeO.none _)
   | (with_reducible refine LeO.ite ?_ ?_)
   | (with_reducible refine LeO.bind ?_ (fun _ => ?_))
   | exact ih0 _ _ _ _ _
   | exact chancelref8_Drop.mono _ _ _ _
   | exact chancelref9_In.mono _ _ _ _ _ _
   | exact LeO.none _
   | refine LeO.ite ?_ ?_
   | refine LeO.bind ?_ (fun _ => ?_)
set_option maxHeartbeats 8000000 in
set_option maxRecDepth 100000 in
theorem chancelref9_Circle.calls (k : Nat) (A0 : Option Addr) (c0 : Nat) (l0 : List (S38)) (a1_0 : ByteArray) (a1_1 : ByteArray) (A2 : Option Addr) (c2 : Nat) (l2 : List (S28)) (r : Bool) (w : World) (hr0 : Kd.C k38 w A0 l0.length l0) (hc0 : l0.length ≤ c0) (hr2 : Kd.C k28 w A2 l2.length l2) (hc2 : l2.length ≤ c2) (h : chancelref9_Circle.f k l0 a1_0 a1_1 l2 = some r) :
  Calls Try.prog 24 #[.slice A0 l0.length c0, .agg #[.string a1_0, .string a1_1], .slice A2 l2.length c2] w fun e w' => e = .returned (.bool r) ∧ Below w.heap.size w w' := by
 have hu28 := Try.underlying28
 have HR0 := aZ_ hr0
 have HC0 := aZ_ hc0
 clear hr0 hc0
 have HR2 := aZ_ hr2
 have HC2 := aZ_ hc2
 clear hr2 hc2
 have HB := aZ_ (Below.refl w.heap.size w)
 have H : ((chancelref8_Drop.f k l0 a1_0 a1_1).bind fun t495 => (chancelref9_Circle.l0 k l2 t495 0 a1_0 a1_1)) = some r := h
 clear h
 replace H := Option.bind_eq_some_iff.mp H
 obtain ⟨t495, A40, H⟩ := H
 replace H : (chancelref9_Circle.l0 k l2 t495 0 a1_0 a1_1) = some r := H
 have A4 := aZ_ A40
 clear A40
 have H' := aZ_ H
 clear H
 go_enter Try.func24, Try.ntmps24
 go_wp2_with (first | ((with_reducible refine gate_dst (N := 4) rfl ?_); refine bxE 4 #[.string a1_0, .string a1_1] 28 ?_; intro gb494 hg w5 hbox hb; have BK494 := aZ_ (hbox); have GW494 := aZ_ ((by rw [hg]; exact (below_size (bl HB)) : w.heap.size ≤ gb494)); have GE494 := aZ_ ((by rw [hg]; exact (below_size (bl HB)) : w.heap.size ≤ gb494)); replace HB := aZ_ (below_step (bl HB) hb); clear hb hbox hg; obtain ⟨hcz6_0, hcz6_1, hfz6_0, hfz6_1⟩ := bc2 BK494) | ((with_reducible refine gate_callee (f := 40) rfl ?_); refine goesL_ (some 11) rfl rfl Try.func40 (by kernel_rfl) rfl #[.slice A0 l0.length c0, .agg #[.string a1_0, .string a1_1]] rfl gm_ ?_; (with_reducible refine (chancelref8_Drop.calls k (fun k_ => k_ < w.heap.size) _ _ l0 a1_0 a1_1 t495 _ ?side1 A4.out).mono ?_); (case side1 => exact Kd.V_mk HC0.out (Kd.F_below (Kd.C_F k38_heap HR0.out) (bl1 HB GE494))); rintro e w7 ⟨v496, rfl, ho0, hb⟩; refine ⟨_, rfl, ?_⟩; have HO497 := aZ_ (Kd.N_lower (Kd.N_mono (ok' := fun k_ => k_ ≠ gb494) ho0 (fun k_ hk_ => Or.elim hk_ (fun hs_ => fun e_ => Nat.not_le.2 hs_ (by rw [e_]; exact GW494.out)) (fun hn_ => (Kd.freshB (g := gb494) (o := .cells #[.string a1_0, .string a1_1] 28 (0, 0)) (bk BK494) k_ hn_)))) (below_size (bl1 HB GE494))); replace BK494 := aZ_ (blk_below (g := gb494) (o := .cells #[.string a1_0, .string a1_1] 28 (0, 0)) (bk BK494) hb); replace HB := aZ_ (below_step (bl1 HB GE494) hb); (try clear hb); (try clear hb2); (try clear hk); (try clear hi); (try clear ho0)))
 go_loopg [8] k (fun kq v8 w' => ∃ (x8_1 : Int), v8 = .int .i64 x8_1 ∧ Aside0 (chancelref9_Circle.l0 kq l2 t495 x8_1 a1_0 a1_1 = some r) ∧ Aside0 (kq ≤ k) ∧ Aside0 (Kd.N k38 38 w' w.heap.size (fun k_ => k_ ≠ gb494) v496 t495) ∧ Aside0 (w'.heap[gb494]? = some (.cells #[.string a1_0, .string a1_1] 28 (0, 0))) ∧ Aside0 (Below w.heap.size w w'))
 case atStart => exact ⟨(0), rf_, H', ⟨Nat.le_refl _⟩, ⟨kN HO497⟩, ⟨bk BK494⟩, ⟨bl1 HB GE494⟩⟩
 case round =>
  clear H'
  try clear c2
  try clear p2
  try clear c4
  try clear hcz6_0
  try clear hcz6_1
  try clear hfz6_0
  try clear hfz6_1
  obtain ⟨x8_1, rfl, HA, HK1, HO_7, BK494, HB⟩ := hrel
  cases gk with
  | zero => exact absurd HA.out (by simp [chancelref9_Circle.l0])
  | succ k1 =>
   have H := HA.out
   clear HA
   simp only [chancelref9_Circle.l0] at H
   by_cases c8 : x8_1 < (l2.length : Int)
   ·
    rw [if_pos c8] at H
    have c8b0 : decide (x8_1 < (l2.length : Int)) = true := decide_eq_true c8
    clear c8
    by_cases c9 : 0 ≤ x8_1
    ·
     rw [if_pos c9] at H
     have c9b0 : decide (0 ≤ x8_1) = true := decide_eq_true c9
     clear c9
     replace H := Option.bind_eq_some_iff.mp H
     obtain ⟨t499, A100, H⟩ := H
     replace H : (if t499 = true then (some true) else (chancelref9_Circle.l0 k1 l2 t495 (wrap64 (x8_1 + 1)) a1_0 a1_1)) = some r := H
     have A10 := aZ_ A100
     clear A100
     by_cases c11 : t499 = true
     ·
      subst c11
      have H1 : (some true) = some r := by rw [if_pos rfl] at H; exact H
      clear H
      have H := H1
      clear H1
      obtain rfl := Option.some.inj H
      try go_wp2
      replace HO_7 := aZ_ (Kd.N_drew HO_7.out)
      replace BK494 := aZ_ (blk_drew BK494.out)
      replace HB := aZ_ (below_drew1 HB.out)
      have p498 : 0 ≤ (x8_1 : Int) := of_decide_eq_true asm_
      have q498 : x8_1 < (l2.length : Int) := of_decide_eq_true asm_
      obtain ⟨ad498, e498, hx498_0, hx498_1⟩ := at_T28 HR2.out x8_1 p498 q498
      have hw498_1 := hx498_1
      have hw498_0 := hx498_0
      cases e498
      replace hx498_0 := (hbc HB.out hx498_0 :)
      replace hx498_1 := (hbc HB.out hx498_1 :)
      replace p498 := eq_true p498
      replace q498 := eq_true q498
      obtain ⟨Ao13, co13, eo13⟩ := Kd.N_slice HO_7.out
      (first | subst eo13 | (injection eo13 with f1_ f2_ f3_; have f4_ := f1_.symm; have f5_ := f3_.symm; clear f1_ f2_ f3_; subst f4_; subst f5_))
      refine start_ (n := 7) (S := fun w' => w'.cell? ⟨gb494, 0, none⟩ = some (.string a1_0) ∧ w'.cell? ⟨gb494, 1, none⟩ = some (.string a1_1) ∧ w'.cell? (ad498.add ((x8_1).toNat * 2)) = some (.string ((rd_T28 l2 x8_1).f0)) ∧ w'.cell? ⟨(ad498.add ((x8_1).toNat * 2)).block, (ad498.add ((x8_1).toNat * 2)).off + 1, none⟩ = some (.string ((rd_T28 l2 x8_1).f1))) (ds := []) #[false, false, false, false, false, false, false] (by kernel_rfl) rfl rfl ⟨(blk_cell BK494.out 0).trans rfl, (blk_cell BK494.out 1).trans rfl, ((hbc HB.out hw498_0 :)), ((hbc HB.out hw498_1 :))⟩ (fun hHeld => ?_)
      generalize wr.drew = w12 at HO_7 BK494 HB hx498_0 hx498_1 hHeld ⊢
      refine pure_ (i := 0) (N := some 18) (v := ?_) (a' := ?_) #[true, false, false, false, false, false, false] rfl rfl (by kernel_rfl) (fun _ _ _ h => h) (Or.inl ⟨by rfl, ?_⟩) ?_ ?_
      rotate_left
      ·
       intro w'
       go_simp
       with_reducible rfl
      rotate_left
      ·
       simp only [Act.put, List.setIfInBounds_toArray, List.set_cons_zero, List.set_cons_succ, i64_w, i32_w]
       rfl
      refine pure_ (i := 1) (N := some 19) (v := ?_) (a' := ?_) #[true, true, false, false, false, false, false] rfl rfl (by kernel_rfl) (fun _ _ _ h => h) (Or.inl ⟨by rfl, ?_⟩) ?_ ?_
      rotate_left
      ·
       intro w'
       go_simp
       with_reducible rfl
      rotate_left
      ·
       simp only [Act.put, List.setIfInBounds_toArray, List.set_cons_zero, List.set_cons_succ, i64_w, i32_w]
       rfl
      refine pure_ (i := 2) (N := some 20) (v := ?_) (a' := ?_) #[true, true, true, false, false, false, false] rfl rfl (by kernel_rfl) (fun _ _ _ h => h) (Or.inl ⟨by rfl, ?_⟩) ?_ ?_
      rotate_left
      ·
       intro w'
       go_simp
       with_reducible rfl
      rotate_left
      ·
       simp only [Act.put, List.setIfInBounds_toArray, List.set_cons_zero, List.set_cons_succ, i64_w, i32_w]
       rfl
      refine pure_ (i := 3) (N := some 21) (v := ?_) (a' := ?_) #[true, true, true, true, false, false, false] rfl rfl (by kernel_rfl) (fun _ _ _ h => h) (Or.inl ⟨by rfl, ?_⟩) ?_ ?_
      rotate_left
      ·
       intro w'
       go_simp
       with_reducible rfl
      rotate_left
      ·
       simp only [Act.put, List.setIfInBounds_toArray, List.set_cons_zero, List.set_cons_succ, i64_w, i32_w]
       rfl
      refine take_ (i := 4) (N := some 22) (v := ?_) (a' := ?_) #[true, true, true, true, true, false, false] rfl rfl (by kernel_rfl) (fun _ _ _ h => h) (Or.inl ⟨by rfl, ?_⟩) hHeld ?_ ?_
      rotate_left
      ·
       rintro w' ⟨s0, s1, s2, s3⟩
       go_simp
       with_reducible rfl
      rotate_left
      ·
       simp only [Act.put, List.setIfInBounds_toArray, List.set_cons_zero, List.set_cons_succ, i64_w, i32_w]
       rfl
      refine take_ (i := 5) (N := some 23) (v := ?_) (a' := ?_) #[true, true, true, true, true, true, false] rfl rfl (by kernel_rfl) (fun _ _ _ h => h) (Or.inl ⟨by rfl, ?_⟩) hHeld ?_ ?_
      rotate_left
      ·
       rintro w' ⟨s0, s1, s2, s3⟩
       go_simp
       with_reducible rfl
      rotate_left
      ·
       simp only [Act.put, List.setIfInBounds_toArray, List.set_cons_zero, List.set_cons_succ, i64_w, i32_w]
       rfl
      refine one_ (i := 6) (N := some 24) #[true, true, true, true, true, true, true] rfl rfl (by kernel_rfl) (by decide) (fun K hK => ?_)
      refine goes_ Try.func17 (by kernel_rfl) rfl #[.slice Ao13 t495.length co13, .agg #[.string ((rd_T28 l2 x8_1).f0), .string ((rd_T28 l2 x8_1).f1)], .agg #[.string a1_0, .string a1_1]] (by rfl) rfl rfl gm_ ?_
      with_reducible refine (chancelref9_In.calls k1 _ _ t495 ((rd_T28 l2 x8_1).f0) ((rd_T28 l2 x8_1).f1) a1_0 a1_1 true _ ?side1 ?side2 A10.out).mono ?_
      (case side1 => repeat (first | exact (Kd.N_reads' HO_7.out).2.2 | (with_reducible refine Kd.C_alloc ?_ _) | (with_reducible refine Kd.C_drewN ?_ _) | (with_reducible refine Kd.C_drew ?_)))
      (case side2 => exact (Kd.N_reads' HO_7.out).2.1)
      rintro e w14 ⟨rfl, hb⟩
      refine ⟨_, rfl, ?_⟩
      replace HO_7 := aZ_ (Kd.N_below (kN HO_7) hb)
      replace BK494 := aZ_ (blk_below (g := gb494) (o := .cells #[.string a1_0, .string a1_1] 28 (0, 0)) (bk BK494) hb)
      replace HB := aZ_ (below_step (bl1 HB GE494) hb)
      (try clear hb)
      (try clear hb2)
      (try clear hk)
      (try clear hi)
      refine hK.out _ _ ⟨(blk_cell BK494.out 0).trans rfl, (blk_cell BK494.out 1).trans rfl, ((hbc HB.out hw498_0 :)), ((hbc HB.out hw498_1 :))⟩ (fun hHeld => ?_)
      clear hK K
      refine norm_ (a' := ?_) ?_ ?_
      rotate_left
      ·
       show Act.put _ (some 24) _ = _
       simp only [Act.put, List.setIfInBounds_toArray, List.set_cons_zero, List.set_cons_succ, i64_w, i32_w]
       rfl
      refine done_ (by kernel_rfl) ?_
      try go_wp2
      go_ret
      exact ⟨by first | rfl | (simp [errW_none, errW_some] <;> rfl) | (simp [*, errW_none, errW_some] <;> rfl), bl1 HB GE494⟩
     ·
      replace c11 := Bool.eq_false_iff.mpr c11
      subst c11
      have H1 : (chancelref9_Circle.l0 k1 l2 t495 (wrap64 (x8_1 + 1)) a1_0 a1_1) = some r := by rw [if_neg (show ¬ (false = true) by decide)] at H; exact H
      clear H
      have H := H1
      clear H1
      have H' := aZ_ H
      clear H
      try go_wp2
      replace HO_7 := aZ_ (Kd.N_drew HO_7.out)
      replace BK494 := aZ_ (blk_drew BK494.out)
      replace HB := aZ_ (below_drew1 HB.out)
      have p498 : 0 ≤ (x8_1 : Int) := of_decide_eq_true asm_
      have q498 : x8_1 < (l2.length : Int) := of_decide_eq_true asm_
      obtain ⟨ad498, e498, hx498_0, hx498_1⟩ := at_T28 HR2.out x8_1 p498 q498
      have hw498_1 := hx498_1
      have hw498_0 := hx498_0
      cases e498
      replace hx498_0 := (hbc HB.out hx498_0 :)
      replace hx498_1 := (hbc HB.out hx498_1 :)
      replace p498 := eq_true p498
      replace q498 := eq_true q498
      obtain ⟨Ao16, co16, eo16⟩ := Kd.N_slice HO_7.out
      (first | subst eo16 | (injection eo16 with f1_ f2_ f3_; have f4_ := f1_.symm; have f5_ := f3_.symm; clear f1_ f2_ f3_; subst f4_; subst f5_))
      refine start_ (n := 7) (S := fun w' => w'.cell? ⟨gb494, 0, none⟩ = some (.string a1_0) ∧ w'.cell? ⟨gb494, 1, none⟩ = some (.string a1_1) ∧ w'.cell? (ad498.add ((x8_1).toNat * 2)) = some (.string ((rd_T28 l2 x8_1).f0)) ∧ w'.cell? ⟨(ad498.add ((x8_1).toNat * 2)).block, (ad498.add ((x8_1).toNat * 2)).off + 1, none⟩ = some (.string ((rd_T28 l2 x8_1).f1))) (ds := []) #[false, false, false, false, false, false, false] (by kernel_rfl) rfl rfl ⟨(blk_cell BK494.out 0).trans rfl, (blk_cell BK494.out 1).trans rfl, ((hbc HB.out hw498_0 :)), ((hbc HB.out hw498_1 :))⟩ (fun hHeld => ?_)
      generalize wr.drew = w15 at HO_7 BK494 HB hx498_0 hx498_1 hHeld ⊢
      refine pure_ (i := 0) (N := some 18) (v := ?_) (a' := ?_) #[true, false, false, false, false, false, false] rfl rfl (by kernel_rfl) (fun _ _ _ h => h) (Or.inl ⟨by rfl, ?_⟩) ?_ ?_
      rotate_left
      ·
       intro w'
       go_simp
       with_reducible rfl
      rotate_left
      ·
       simp only [Act.put, List.setIfInBounds_toArray, List.set_cons_zero, List.set_cons_succ, i64_w, i32_w]
       rfl
      refine pure_ (i := 1) (N := some 19) (v := ?_) (a' := ?_) #[true, true, false, false, false, false, false] rfl rfl (by kernel_rfl) (fun _ _ _ h => h) (Or.inl ⟨by rfl, ?_⟩) ?_ ?_
      rotate_left
      ·
       intro w'
       go_simp
       with_reducible rfl
      rotate_left
      ·
       simp only [Act.put, List.setIfInBounds_toArray, List.set_cons_zero, List.set_cons_succ, i64_w, i32_w]
       rfl
      refine pure_ (i := 2) (N := some 20) (v := ?_) (a' := ?_) #[true, true, true, false, false, false, false] rfl rfl (by kernel_rfl) (fun _ _ _ h => h) (Or.inl ⟨by rfl, ?_⟩) ?_ ?_
      rotate_left
      ·
       intro w'
       go_simp
       with_reducible rfl
      rotate_left
      ·
       simp only [Act.put, List.setIfInBounds_toArray, List.set_cons_zero, List.set_cons_succ, i64_w, i32_w]
       rfl
      refine pure_ (i := 3) (N := some 21) (v := ?_) (a' := ?_) #[true, true, true, true, false, false, false] rfl rfl (by kernel_rfl) (fun _ _ _ h => h) (Or.inl ⟨by rfl, ?_⟩) ?_ ?_
      rotate_left
      ·
       intro w'
       go_simp
       with_reducible rfl
      rotate_left
      ·
       simp only [Act.put, List.setIfInBounds_toArray, List.set_cons_zero, List.set_cons_succ, i64_w, i32_w]
       rfl
      refine take_ (i := 4) (N := some 22) (v := ?_) (a' := ?_) #[true, true, true, true, true, false, false] rfl rfl (by kernel_rfl) (fun _ _ _ h => h) (Or.inl ⟨by rfl, ?_⟩) hHeld ?_ ?_
      rotate_left
      ·
       rintro w' ⟨s0, s1, s2, s3⟩
       go_simp
       with_reducible rfl
      rotate_left
      ·
       simp only [Act.put, List.setIfInBounds_toArray, List.set_cons_zero, List.set_cons_succ, i64_w, i32_w]
       rfl
      refine take_ (i := 5) (N := some 23) (v := ?_) (a' := ?_) #[true, true, true, true, true, true, false] rfl rfl (by kernel_rfl) (fun _ _ _ h => h) (Or.inl ⟨by rfl, ?_⟩) hHeld ?_ ?_
      rotate_left
      ·
       rintro w' ⟨s0, s1, s2, s3⟩
       go_simp
       with_reducible rfl
      rotate_left
      ·
       simp only [Act.put, List.setIfInBounds_toArray, List.set_cons_zero, List.set_cons_succ, i64_w, i32_w]
       rfl
      refine one_ (i := 6) (N := some 24) #[true, true, true, true, true, true, true] rfl rfl (by kernel_rfl) (by decide) (fun K hK => ?_)
      refine goes_ Try.func17 (by kernel_rfl) rfl #[.slice Ao16 t495.length co16, .agg #[.string ((rd_T28 l2 x8_1).f0), .string ((rd_T28 l2 x8_1).f1)], .agg #[.string a1_0, .string a1_1]] (by rfl) rfl rfl gm_ ?_
      with_reducible refine (chancelref9_In.calls k1 _ _ t495 ((rd_T28 l2 x8_1).f0) ((rd_T28 l2 x8_1).f1) a1_0 a1_1 false _ ?side1 ?side2 A10.out).mono ?_
      (case side1 => repeat (first | exact (Kd.N_reads' HO_7.out).2.2 | (with_reducible refine Kd.C_alloc ?_ _) | (with_reducible refine Kd.C_drewN ?_ _) | (with_reducible refine Kd.C_drew ?_)))
      (case side2 => exact (Kd.N_reads' HO_7.out).2.1)
      rintro e w17 ⟨rfl, hb⟩
      refine ⟨_, rfl, ?_⟩
      replace HO_7 := aZ_ (Kd.N_below (kN HO_7) hb)
      replace BK494 := aZ_ (blk_below (g := gb494) (o := .cells #[.string a1_0, .string a1_1] 28 (0, 0)) (bk BK494) hb)
      replace HB := aZ_ (below_step (bl1 HB GE494) hb)
      (try clear hb)
      (try clear hb2)
      (try clear hk)
      (try clear hi)
      refine hK.out _ _ ⟨(blk_cell BK494.out 0).trans rfl, (blk_cell BK494.out 1).trans rfl, ((hbc HB.out hw498_0 :)), ((hbc HB.out hw498_1 :))⟩ (fun hHeld => ?_)
      clear hK K
      refine norm_ (a' := ?_) ?_ ?_
      rotate_left
      ·
       show Act.put _ (some 24) _ = _
       simp only [Act.put, List.setIfInBounds_toArray, List.set_cons_zero, List.set_cons_succ, i64_w, i32_w]
       rfl
      refine done_ (by kernel_rfl) ?_
      try go_wp2
      go_roundg k1
      case measure => have := HK1.out; omega
      case rel => exact ⟨(wrap64 (x8_1 + 1)), rf_, H', ⟨by have := HK1.out; omega⟩, ⟨kN HO_7⟩, ⟨bk BK494⟩, ⟨bl1 HB GE494⟩⟩
    ·
     rw [if_neg c9] at H
     exact absurd H (by simp)
   ·
    rw [if_neg c8] at H
    have c8b0 : decide (x8_1 < (l2.length : Int)) = false := decide_eq_false c8
    clear c8
    obtain rfl := Option.some.inj H
    go_wp2
    go_ret
    exact ⟨by first | rfl | (simp [errW_none, errW_some] <;> rfl) | (simp [*, errW_none, errW_some] <;> rfl), bl1 HB GE494⟩

end Go.Proofs.Ytelibndkkokadaa.GB
