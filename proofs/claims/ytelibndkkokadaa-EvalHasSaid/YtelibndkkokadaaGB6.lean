-- Written by wip/tools/gprint.py over the kit's printer.
import Derived.Test.YtelibndkkokadaaGB0
import Derived.Test.YtelibndkkokadaaGB1
import Derived.Test.YtelibndkkokadaaSqz
namespace Go.Proofs.Ytelibndkkokadaa.GB
open Go.RowKit Go.Proofs.YtelibndkkokadaaW.PrintWords Go.Proofs.YtelibndkkokadaaW.PrintLast Go.Proofs.Ytelibndkkokadaa.HandV Go.Proofs.YtelibndkkokadaaW.PrintMore
attribute [local go_sem] max2_int min2_int max_two min_two max_three min_three max_four min_four   -- for this text's walks alone
set_option linter.unusedVariables false
set_option linter.unusedSimpArgs false

attribute [local go_sem high] eqA28
/-! ### chancelref3_Same: function 31 -/
mutual
def chancelref3_Same.j0 : Nat → Bool → Int → Bool → Int → ByteArray → ByteArray → ByteArray → List (S55) → Int → Bool → Int → ByteArray → ByteArray → ByteArray → List (S55) → Option (Bool)
 | 0, _, _, _, _, _, _, _, _, _, _, _, _, _, _, _ => none
 | k + 1, x47, x214000, x214001, x214002, x214003, x214004, x214005, x214006, x215000, x215001, x215002, x215003, x215004, x215005, x215006 => if x47 = true then (some false) else (chancelref3_Same.l0 k 0 x214000 x214001 x214002 x214003 x214004 x214005 x214006 x215000 x215001 x215002 x215003 x215004 x215005 x215006)
def chancelref3_Same.l0 : Nat → Int → Int → Bool → Int → ByteArray → ByteArray → ByteArray → List (S55) → Int → Bool → Int → ByteArray → ByteArray → ByteArray → List (S55) → Option (Bool)
 | 0, _, _, _, _, _, _, _, _, _, _, _, _, _, _, _ => none
 | k + 1, x5, x214000, x214001, x214002, x214003, x214004, x214005, x214006, x215000, x215001, x215002, x215003, x215004, x215005, x215006 => if x5 < (x214006.length : Int) then (if 0 ≤ x5 then (if x5 < (x215006.length : Int) then ((chancelref3_Same.f k ((rd_T55 x214006 x5).f0) ((rd_T55 x214006 x5).f1) ((rd_T55 x214006 x5).f2) ((rd_T55 x214006 x5).f3) ((rd_T55 x214006 x5).f4.f0) ((rd_T55 x214006 x5).f4.f1) ((rd_T55 x214006 x5).f5) ((rd_T55 x215006 x5).f0) ((rd_T55 x215006 x5).f1) ((rd_T55 x215006 x5).f2) ((rd_T55 x215006 x5).f3) ((rd_T55 x215006 x5).f4.f0) ((rd_T55 x215006 x5).f4.f1) ((rd_T55 x215006 x5).f5)).bind fun t217 => (if t217 = true then (chancelref3_Same.l0 k (wrap64 (x5 + 1)) x214000 x214001 x214002 x214003 x214004 x214005 x214006 x215000 x215001 x215002 x215003 x215004 x215005 x215006) else (some false))) else (none)) else (none)) else (some true)
def chancelref3_Same.f : Nat → Int → Bool → Int → ByteArray → ByteArray → ByteArray → List (S55) → Int → Bool → Int → ByteArray → ByteArray → ByteArray → List (S55) → Option (Bool)
 | 0, _, _, _, _, _, _, _, _, _, _, _, _, _, _ => none
 | k + 1, a0_0, a0_1, a0_2, a0_3, a0_4, a0_5, l0_6, a1_0, a1_1, a1_2, a1_3, a1_4, a1_5, l1_6 => if a0_0 = a1_0 then (if (a0_1 != a1_1) = true then (chancelref3_Same.j0 k true a0_0 a0_1 a0_2 a0_3 a0_4 a0_5 l0_6 a1_0 a1_1 a1_2 a1_3 a1_4 a1_5 l1_6) else (if a0_2 = a1_2 then (if a0_3.toList = a1_3.toList then (if (!(a0_4.toList == a1_4.toList) || (!(a0_5.toList == a1_5.toList))) = true then (chancelref3_Same.j0 k true a0_0 a0_1 a0_2 a0_3 a0_4 a0_5 l0_6 a1_0 a1_1 a1_2 a1_3 a1_4 a1_5 l1_6) else (chancelref3_Same.j0 k ((l0_6.length : Int) != (l1_6.length : Int)) a0_0 a0_1 a0_2 a0_3 a0_4 a0_5 l0_6 a1_0 a1_1 a1_2 a1_3 a1_4 a1_5 l1_6)) else (chancelref3_Same.j0 k true a0_0 a0_1 a0_2 a0_3 a0_4 a0_5 l0_6 a1_0 a1_1 a1_2 a1_3 a1_4 a1_5 l1_6)) else (chancelref3_Same.j0 k true a0_0 a0_1 a0_2 a0_3 a0_4 a0_5 l0_6 a1_0 a1_1 a1_2 a1_3 a1_4 a1_5 l1_6))) else (chancelref3_Same.j0 k true a0_0 a0_1 a0_2 a0_3 a0_4 a0_5 l0_6 a1_0 a1_1 a1_2 a1_3 a1_4 a1_5 l1_6)
end
theorem chancelref3_Same.mono_l : ∀ k, (∀ y0 y1 y2 y3 y4 y5 y6 y7 y8 y9 y10 y11 y12 y13, LeO (chancelref3_Same.f k y0 y1 y2 y3 y4 y5 y6 y7 y8 y9 y10 y11 y12 y13) (chancelref3_Same.f (k + 1) y0 y1 y2 y3 y4 y5 y6 y7 y8 y9 y10 y11 y12 y13)) ∧ (∀ y0 y1 y2 y3 y4 y5 y6 y7 y8 y9 y10 y11 y12 y13 y14, LeO (chancelref3_Same.j0 k y0 y1 y2 y3 y4 y5 y6 y7 y8 y9 y10 y11 y12 y13 y14) (chancelref3_Same.j0 (k + 1) y0 y1 y2 y3 y4 y5 y6 y7 y8 y9 y10 y11 y12 y13 y14)) ∧ (∀ y0 y1 y2 y3 y4 y5 y6 y7 y8 y9 y10 y11 y12 y13 y14, LeO (chancelref3_Same.l0 k y0 y1 y2 y3 y4 y5 y6 y7 y8 y9 y10 y11 y12 y13 y14) (chancelref3_Same.l0 (k + 1) y0 y1 y2 y3 y4 y5 y6 y7 y8 y9 y10 y11 y12 y13 y14))
 | 0 => ⟨fun _ _ _ _ _ _ _ _ _ _ _ _ _ _ r h => by simp [chancelref3_Same.f] at h, fun _ _ _ _ _ _ _ _ _ _ _ _ _ _ _ r h => by simp [chancelref3_Same.j0] at h, fun _ _ _ _ _ _ _ _ _ _ _ _ _ _ _ r h => by simp [chancelref3_Same.l0] at h⟩
 | k + 1 => by
  obtain ⟨ih0, ih1, ih2⟩ := chancelref3_Same.mono_l k
  refine ⟨?_, ?_, ?_⟩
  ·
   intro y0 y1 y2 y3 y4 y5 y6 y7 y8 y9 y10 y11 y12 y13
   unfold chancelref3_Same.f
   repeat' first
   | (with_reducible exact ih0 _ _ _ _ _ _ _ _ _ _ _ _ _ _)
   | (with_reducible exact ih1 _ _ _ _ _ _ _ _ _ _ _ _ _ _ _)
   | (with_reducible exact ih2 _ _ _ _ _ _ _ _ _ _ _ _ _ _ _)
   | (with_reducible exact LeO.refl _)
   | (with_reducible exact LeO.none _)
   | (with_reducible refine LeO.ite ?_ ?_)
   | (with_reducible refine LeO.bind ?_ (fun _ => ?_))
   | exact ih0 _ _ _ _ _ _ _ _ _ _ _ _ _ _
   | exact ih1 _ _ _ _ _ _ _ _ _ _ _ _ _ _ _
   | exact ih2 _ _ _ _ _ _ _ _ _ _ _ _ _ _ _
   | exact LeO.none _
   | refine LeO.ite ?_ ?_
   | refine LeO.bind ?_ (fun _ => ?_)
  ·
   intro y0 y1 y2 y3 y4 y5 y6 y7 y8 y9 y10 y11 y12 y13 y14
   unfold chancelref3_Same.j0
   repeat' first
   | (with_reducible exact ih0 _ _ _ _ _ _ _ _ _ _ _ _ _ _)
   | (with_reducible exact ih1 _ _ _ _ _ _ _ _ _ _ _ _ _ _ _)
   | (with_reducible exact ih2 _ _ _ _ _ _ _ _ _ _ _ _ _ _ _)
   | (with_reducible exact LeO.refl _)
   | (with_reducible exact LeO.none _)
   | (with_reducible refine LeO.ite ?_ ?_)
   | (with_reducible refine LeO.bind ?_ (fun _ => ?_))
   | exact ih0 _ _ _ _ _ _ _ _ _ _ _ _ _ _
   | exact ih1 _ _ _ _ _ _ _ _ _ _ _ _ _ _ _
   | exact ih2 _ _ _ _ _ _ _ _ _ _ _ _ _ _ _
   | exact LeO.none _
   | refine LeO.ite ?_ ?_
   | refine LeO.bind ?_ (fun _ => ?_)
  ·
   intro y0 y1 y2 y3 y4 y5 y6 y7 y8 y9 y10 y11 y12 y13 y14
   unfold chancelref3_Same.l0
   repeat' first
   | (with_reducible exact ih0 _ _ _ _ _ _ _ _ _ _ _ _ _ _)
   | (with_reducible exact ih1 _ _ _ _ _ _ _ _ _ _ _ _ _ _ _)
   | (with_reducible exact ih2 _ _ _ _ _ _ _ _ _ _ _ _ _ _ _)
   | (with_reducible exact LeO.refl _)
   | (with_reducible exact LeO.none _)
   | (with_reducible refine LeO.ite ?_ ?_)
   | (with_reducible refine LeO.bind ?_ (fun _ => ?_))
   | exact ih0 _ _ _ _ _ _ _ _ _ _ _ _ _ _
   | exact ih1 _ _ _ _ _ _ _ _ _ _ _ _ _ _ _
   | exact ih2 _ _ _ _ _ _ _ _ _ _ _ _ _ _ _
   | exact LeO.none _
   | refine LeO.ite ?_ ?_
   | refine LeO.bind ?_ (fun _ => ?_)
theorem chancelref3_Same.mono : ∀ a0 a1 a2 a3 a4 a5 a6 a7 a8 a9 a10 a11 a12 a13 k, LeO (chancelref3_Same.f k a0 a1 a2 a3 a4 a5 a6 a7 a8 a9 a10 a11 a12 a13) (chancelref3_Same.f (k + 1) a0 a1 a2 a3 a4 a5 a6 a7 a8 a9 a10 a11 a12 a13) := by
 intro a0 a1 a2 a3 a4 a5 a6 a7 a8 a9 a10 a11 a12 a13 k
 obtain ⟨ih0, ih1, ih2⟩ := chancelref3_Same.mono_l k
 exact ih0 a0 a1 a2 a3 a4 a5 a6 a7 a8 a9 a10 a11 a12 a13
def chancelref3_Same.T6 : Bool × List (List Nat × List Nat) := (true, [([], []), ([0], [0]), ([], []), ([1, 2], [1, 2]), ([3], [3]), ([], []), ([5], [5]), ([], []), ([6, 7], [6, 7]), ([8], [8]), ([4, 9], [4, 9]), ([10], [10])])
def chancelref3_Same.B6 : List Nat := [0, 1, 0, 7, 15, 0, 32, 0, 224, 480, 1023, 2047]
theorem chancelref3_Same.tab6 : rtab .any (opsOf Try.f31 6) = chancelref3_Same.T6 := by kernel_rfl
theorem chancelref3_Same.bits6 : waitsOk chancelref3_Same.T6.2 chancelref3_Same.B6 = true := by kernel_rfl
set_option maxHeartbeats 8000000 in
set_option maxRecDepth 100000 in
theorem chancelref3_Same.calls (k : Nat) : ∀ (a0_0 : Int) (a0_1 : Bool) (a0_2 : Int) (a0_3 : ByteArray) (a0_4 : ByteArray) (a0_5 : ByteArray) (A0_6 : Option Addr) (c0_6 : Nat) (l0_6 : List (S55)) (a1_0 : Int) (a1_1 : Bool) (a1_2 : Int) (a1_3 : ByteArray) (a1_4 : ByteArray) (a1_5 : ByteArray) (A1_6 : Option Addr) (c1_6 : Nat) (l1_6 : List (S55)) (r : Bool) (w : World) (hr0_6 : Kd.C k55 w A0_6 l0_6.length l0_6) (hc0_6 : l0_6.length ≤ c0_6) (hr1_6 : Kd.C k55 w A1_6 l1_6.length l1_6) (hc1_6 : l1_6.length ≤ c1_6) (h : chancelref3_Same.f k a0_0 a0_1 a0_2 a0_3 a0_4 a0_5 l0_6 a1_0 a1_1 a1_2 a1_3 a1_4 a1_5 l1_6 = some r),
  Calls Try.prog 31 #[.agg #[.int .i64 a0_0, .bool a0_1, .int .i64 a0_2, .string a0_3, .string a0_4, .string a0_5, .slice A0_6 l0_6.length c0_6], .agg #[.int .i64 a1_0, .bool a1_1, .int .i64 a1_2, .string a1_3, .string a1_4, .string a1_5, .slice A1_6 l1_6.length c1_6]] w fun e w' => e = .returned (.bool r) ∧ Below w.heap.size w w' := by
 induction k using Nat.strongRecOn with
 | _ k ih =>
 intro a0_0 a0_1 a0_2 a0_3 a0_4 a0_5 A0_6 c0_6 l0_6 a1_0 a1_1 a1_2 a1_3 a1_4 a1_5 A1_6 c1_6 l1_6 r w hr0_6 hc0_6 hr1_6 hc1_6 h
 cases k with
 | zero => exact absurd h (by simp [chancelref3_Same.f])
 | succ k =>
 simp only [chancelref3_Same.f] at h
 have hu55 := Try.underlying55
 have hu28 := Try.underlying28
 have HR0_6 := aZ_ hr0_6
 have HC0_6 := aZ_ hc0_6
 clear hr0_6 hc0_6
 have HR1_6 := aZ_ hr1_6
 have HC1_6 := aZ_ hc1_6
 clear hr1_6 hc1_6
 have HB := aZ_ (Below.refl w.heap.size w)
 have H : (if a0_0 = a1_0 then (if (a0_1 != a1_1) = true then (chancelref3_Same.j0 k true a0_0 a0_1 a0_2 a0_3 a0_4 a0_5 l0_6 a1_0 a1_1 a1_2 a1_3 a1_4 a1_5 l1_6) else (if a0_2 = a1_2 then (if a0_3.toList = a1_3.toList then (if (!(a0_4.toList == a1_4.toList) || (!(a0_5.toList == a1_5.toList))) = true then (chancelref3_Same.j0 k true a0_0 a0_1 a0_2 a0_3 a0_4 a0_5 l0_6 a1_0 a1_1 a1_2 a1_3 a1_4 a1_5 l1_6) else (chancelref3_Same.j0 k ((l0_6.length : Int) != (l1_6.length : Int)) a0_0 a0_1 a0_2 a0_3 a0_4 a0_5 l0_6 a1_0 a1_1 a1_2 a1_3 a1_4 a1_5 l1_6)) else (chancelref3_Same.j0 k true a0_0 a0_1 a0_2 a0_3 a0_4 a0_5 l0_6 a1_0 a1_1 a1_2 a1_3 a1_4 a1_5 l1_6)) else (chancelref3_Same.j0 k true a0_0 a0_1 a0_2 a0_3 a0_4 a0_5 l0_6 a1_0 a1_1 a1_2 a1_3 a1_4 a1_5 l1_6))) else (chancelref3_Same.j0 k true a0_0 a0_1 a0_2 a0_3 a0_4 a0_5 l0_6 a1_0 a1_1 a1_2 a1_3 a1_4 a1_5 l1_6)) = some r := h
 clear h
 have HC3 := aZ_ H
 clear H
 go_enter Try.func31, Try.ntmps31
 go_upto_region 1 with (first | ((with_reducible refine gate_dst (N := 2) rfl ?_); (try (refine gate_guard (by rfl) ?_; dsimp only)); refine bxE 2 #[.int .i64 a0_0, .bool a0_1, .int .i64 a0_2, .string a0_3, .string a0_4, .string a0_5, .slice A0_6 l0_6.length c0_6] 55 ?_; intro gb213 hg w4 hbox hb; have BK213 := aZ_ (hbox); have GW213 := aZ_ ((by rw [hg]; exact (below_size (bl HB)) : w.heap.size ≤ gb213)); have GE213 := aZ_ ((by rw [hg]; exact (below_size (bl HB)) : w.heap.size ≤ gb213)); replace HB := aZ_ (below_step (bl HB) hb); clear hb hbox hg) | ((with_reducible refine gate_dst (N := 3) rfl ?_); (try (refine gate_guard (by rfl) ?_; dsimp only)); refine bxE 3 #[.int .i64 a1_0, .bool a1_1, .int .i64 a1_2, .string a1_3, .string a1_4, .string a1_5, .slice A1_6 l1_6.length c1_6] 55 ?_; intro gb214 hg w5 hbox hb; have BK214 := aZ_ (hbox); have GW214 := aZ_ ((by rw [hg]; exact (below_size (bl1 HB GE213)) : w.heap.size ≤ gb214)); have GE214 := aZ_ ((by rw [hg]; exact (below_size (bl1 HB GE213)) : w.heap.size ≤ gb214)); replace HB := aZ_ (below_step (bl1 HB GE213) hb); have NB213_214 := aZ_ ((by rw [hg]; exact Nat.ne_of_lt (blk_lt (g := gb213) (o := .cells #[.int .i64 a0_0, .bool a0_1, .int .i64 a0_2, .string a0_3, .string a0_4, .string a0_5, .slice A0_6 l0_6.length c0_6] 55 (0, 0)) (bk BK213)) : gb213 ≠ gb214)); have NB214_213 := aZ_ ((by rw [hg]; exact Nat.ne_of_gt (blk_lt (g := gb213) (o := .cells #[.int .i64 a0_0, .bool a0_1, .int .i64 a0_2, .string a0_3, .string a0_4, .string a0_5, .slice A0_6 l0_6.length c0_6] 55 (0, 0)) (bk BK213)) : gb214 ≠ gb213)); replace BK213 := aZ_ (blk_below (g := gb213) (o := .cells #[.int .i64 a0_0, .bool a0_1, .int .i64 a0_2, .string a0_3, .string a0_4, .string a0_5, .slice A0_6 l0_6.length c0_6] 55 (0, 0)) (bk BK213) hb); clear hb hbox hg))
 (try simp only [Act.put, List.setIfInBounds_toArray, List.set_cons_zero, List.set_cons_succ])
 go_cut [47] (fun v47 wc => ∃ (kq : Nat) (x47_2 : Bool), v47 = .bool x47_2 ∧ Aside0 (chancelref3_Same.j0 kq x47_2 a0_0 a0_1 a0_2 a0_3 a0_4 a0_5 l0_6 a1_0 a1_1 a1_2 a1_3 a1_4 a1_5 l1_6 = some r) ∧ Aside0 (kq ≤ k) ∧ Aside0 (wc.heap[gb213]? = some (.cells #[.int .i64 a0_0, .bool a0_1, .int .i64 a0_2, .string a0_3, .string a0_4, .string a0_5, (.slice A0_6 l0_6.length c0_6)] 55 (0, 0))) ∧ Aside0 (wc.heap[gb214]? = some (.cells #[.int .i64 a1_0, .bool a1_1, .int .i64 a1_2, .string a1_3, .string a1_4, .string a1_5, (.slice A1_6 l1_6.length c1_6)] 55 (0, 0))) ∧ Aside0 (Below w.heap.size w wc))
 case first =>
  have H := HC3.out
  clear HC3
  by_cases c6 : a0_0 = a1_0
  ·
   rw [if_pos c6] at H
   have c6b0 : (a0_0 == a1_0) = true := beq_iff_eq.mpr c6
   have c6b1 : (a0_0 != a1_0) = false := bne_eq_false_iff_eq.mpr c6
   clear c6
   (first | rw [c6b0] | (simp only [i64_w, i32_w]; rw [c6b0]) | skip)
   by_cases c7 : (a0_1 != a1_1) = true
   ·
    rw [if_pos c7] at H
    have c7b0 : (a0_1 != a1_1) = true := c7
    (try (have c7b1 : decide (a0_1 = a1_1) = false := by simpa using c7))
    (try (have c7b2 : (a0_1 == a1_1) = false := by simpa using c7))
    (try (have c7b3 : ¬ (a0_1 = a1_1) := by simpa using c7))
    clear c7
    have H' := aZ_ H
    clear H
    have hnb8 := NB213_214.out
    have hnc8 := NB214_213.out
    obtain ⟨hcz9_0, hcz9_1, hcz9_2, hcz9_3, hcz9_4, hcz9_5, hcz9_6, hfz9_0, hfz9_1, hfz9_2, hfz9_3, hfz9_4, hfz9_5, hfz9_6⟩ := bc7 BK213
    obtain ⟨hcz10_0, hcz10_1, hcz10_2, hcz10_3, hcz10_4, hcz10_5, hcz10_6, hfz10_0, hfz10_1, hfz10_2, hfz10_3, hfz10_4, hfz10_5, hfz10_6⟩ := bc7 BK214
    go_wp2
    go_meet
    case rel => exact ⟨_, (true), rf_, H', ⟨by first | omega | exact Nat.le_refl _⟩, ⟨bk BK213⟩, ⟨bk BK214⟩, ⟨bl2 HB GE213 GE214⟩⟩
   ·
    rw [if_neg c7] at H
    have c7b0 : (a0_1 != a1_1) = false := by simpa using c7
    (try (have c7b1 : decide (a0_1 = a1_1) = true := by simpa using c7))
    (try (have c7b2 : (a0_1 == a1_1) = true := by simpa using c7))
    clear c7
    by_cases c11 : a0_2 = a1_2
    ·
     rw [if_pos c11] at H
     have c11b0 : (a0_2 == a1_2) = true := beq_iff_eq.mpr c11
     have c11b1 : (a0_2 != a1_2) = false := bne_eq_false_iff_eq.mpr c11
     clear c11
     by_cases c12 : a0_3.toList = a1_3.toList
     ·
      rw [if_pos c12] at H
      have c12b0 : (a0_3.toList == a1_3.toList) = true := beq_iff_eq.mpr c12
      have c12b1 : (a0_3.toList != a1_3.toList) = false := bne_eq_false_iff_eq.mpr c12
      clear c12
      by_cases c13 : (!(a0_4.toList == a1_4.toList) || (!(a0_5.toList == a1_5.toList))) = true
      ·
       rw [if_pos c13] at H
       have c13b0 : (!(a0_4.toList == a1_4.toList) || (!(a0_5.toList == a1_5.toList))) = true := c13
       clear c13
       have H' := aZ_ H
       clear H
       have hnb14 := NB213_214.out
       have hnc14 := NB214_213.out
       obtain ⟨hcz15_0, hcz15_1, hcz15_2, hcz15_3, hcz15_4, hcz15_5, hcz15_6, hfz15_0, hfz15_1, hfz15_2, hfz15_3, hfz15_4, hfz15_5, hfz15_6⟩ := bc7 BK213
       obtain ⟨hcz16_0, hcz16_1, hcz16_2, hcz16_3, hcz16_4, hcz16_5, hcz16_6, hfz16_0, hfz16_1, hfz16_2, hfz16_3, hfz16_4, hfz16_5, hfz16_6⟩ := bc7 BK214
       go_wp2
       go_meet
       case rel => exact ⟨_, (true), rf_, H', ⟨by first | omega | exact Nat.le_refl _⟩, ⟨bk BK213⟩, ⟨bk BK214⟩, ⟨bl2 HB GE213 GE214⟩⟩
      ·
       rw [if_neg c13] at H
       have c13b0 : (!(a0_4.toList == a1_4.toList) || (!(a0_5.toList == a1_5.toList))) = false := by simpa using c13
       clear c13
       have H' := aZ_ H
       clear H
       have hnb17 := NB213_214.out
       have hnc17 := NB214_213.out
       obtain ⟨hcz18_0, hcz18_1, hcz18_2, hcz18_3, hcz18_4, hcz18_5, hcz18_6, hfz18_0, hfz18_1, hfz18_2, hfz18_3, hfz18_4, hfz18_5, hfz18_6⟩ := bc7 BK213
       obtain ⟨hcz19_0, hcz19_1, hcz19_2, hcz19_3, hcz19_4, hcz19_5, hcz19_6, hfz19_0, hfz19_1, hfz19_2, hfz19_3, hfz19_4, hfz19_5, hfz19_6⟩ := bc7 BK214
       go_wp2
       go_meet
       case rel => exact ⟨_, (((l0_6.length : Int) != (l1_6.length : Int))), rf_, H', ⟨by first | omega | exact Nat.le_refl _⟩, ⟨bk BK213⟩, ⟨bk BK214⟩, ⟨bl2 HB GE213 GE214⟩⟩
     ·
      rw [if_neg c12] at H
      have c12b0 : (a0_3.toList == a1_3.toList) = false := beq_eq_false_iff_ne.mpr c12
      have c12b1 : (a0_3.toList != a1_3.toList) = true := bne_iff_ne.mpr c12
      have H' := aZ_ H
      clear H
      have hnb20 := NB213_214.out
      have hnc20 := NB214_213.out
      obtain ⟨hcz21_0, hcz21_1, hcz21_2, hcz21_3, hcz21_4, hcz21_5, hcz21_6, hfz21_0, hfz21_1, hfz21_2, hfz21_3, hfz21_4, hfz21_5, hfz21_6⟩ := bc7 BK213
      obtain ⟨hcz22_0, hcz22_1, hcz22_2, hcz22_3, hcz22_4, hcz22_5, hcz22_6, hfz22_0, hfz22_1, hfz22_2, hfz22_3, hfz22_4, hfz22_5, hfz22_6⟩ := bc7 BK214
      go_wp2
      go_meet
      case rel => exact ⟨_, (true), rf_, H', ⟨by first | omega | exact Nat.le_refl _⟩, ⟨bk BK213⟩, ⟨bk BK214⟩, ⟨bl2 HB GE213 GE214⟩⟩
    ·
     rw [if_neg c11] at H
     have c11b0 : (a0_2 == a1_2) = false := beq_eq_false_iff_ne.mpr c11
     have c11b1 : (a0_2 != a1_2) = true := bne_iff_ne.mpr c11
     have H' := aZ_ H
     clear H
     have hnb23 := NB213_214.out
     have hnc23 := NB214_213.out
     obtain ⟨hcz24_0, hcz24_1, hcz24_2, hcz24_3, hcz24_4, hcz24_5, hcz24_6, hfz24_0, hfz24_1, hfz24_2, hfz24_3, hfz24_4, hfz24_5, hfz24_6⟩ := bc7 BK213
     obtain ⟨hcz25_0, hcz25_1, hcz25_2, hcz25_3, hcz25_4, hcz25_5, hcz25_6, hfz25_0, hfz25_1, hfz25_2, hfz25_3, hfz25_4, hfz25_5, hfz25_6⟩ := bc7 BK214
     go_wp2
     go_meet
     case rel => exact ⟨_, (true), rf_, H', ⟨by first | omega | exact Nat.le_refl _⟩, ⟨bk BK213⟩, ⟨bk BK214⟩, ⟨bl2 HB GE213 GE214⟩⟩
  ·
   rw [if_neg c6] at H
   have c6b0 : (a0_0 == a1_0) = false := beq_eq_false_iff_ne.mpr c6
   have c6b1 : (a0_0 != a1_0) = true := bne_iff_ne.mpr c6
   (first | rw [c6b0] | (simp only [i64_w, i32_w]; rw [c6b0]) | skip)
   have H' := aZ_ H
   clear H
   have hnb26 := NB213_214.out
   have hnc26 := NB214_213.out
   obtain ⟨hcz27_0, hcz27_1, hcz27_2, hcz27_3, hcz27_4, hcz27_5, hcz27_6, hfz27_0, hfz27_1, hfz27_2, hfz27_3, hfz27_4, hfz27_5, hfz27_6⟩ := bc7 BK213
   obtain ⟨hcz28_0, hcz28_1, hcz28_2, hcz28_3, hcz28_4, hcz28_5, hcz28_6, hfz28_0, hfz28_1, hfz28_2, hfz28_3, hfz28_4, hfz28_5, hfz28_6⟩ := bc7 BK214
   go_wp2
   go_meet
   case rel => exact ⟨_, (true), rf_, H', ⟨by first | omega | exact Nat.le_refl _⟩, ⟨bk BK213⟩, ⟨bk BK214⟩, ⟨bl2 HB GE213 GE214⟩⟩
 case rest =>
  clear HC3
  try clear c1
  try clear c2
  try clear p2
  try clear c3
  try clear c6
  try clear c6b0
  try clear c6b1
  try clear c7
  try clear c7b0
  try clear c7b1
  try clear c7b2
  try clear c8
  try clear c11
  try clear c11b0
  try clear c11b1
  try clear c12
  try clear c12b0
  try clear c12b1
  try clear c13
  try clear c13b0
  try clear c14
  try clear c17
  try clear c20
  try clear c23
  try clear c26
  try clear hcz10_0
  try clear hcz10_1
  try clear hcz10_2
  try clear hcz10_3
  try clear hcz10_4
  try clear hcz10_5
  try clear hcz10_6
  try clear hcz15_0
  try clear hcz15_1
  try clear hcz15_2
  try clear hcz15_3
  try clear hcz15_4
  try clear hcz15_5
  try clear hcz15_6
  try clear hcz16_0
  try clear hcz16_1
  try clear hcz16_2
  try clear hcz16_3
  try clear hcz16_4
  try clear hcz16_5
  try clear hcz16_6
  try clear hcz18_0
  try clear hcz18_1
  try clear hcz18_2
  try clear hcz18_3
  try clear hcz18_4
  try clear hcz18_5
  try clear hcz18_6
  try clear hcz19_0
  try clear hcz19_1
  try clear hcz19_2
  try clear hcz19_3
  try clear hcz19_4
  try clear hcz19_5
  try clear hcz19_6
  try clear hcz21_0
  try clear hcz21_1
  try clear hcz21_2
  try clear hcz21_3
  try clear hcz21_4
  try clear hcz21_5
  try clear hcz21_6
  try clear hcz22_0
  try clear hcz22_1
  try clear hcz22_2
  try clear hcz22_3
  try clear hcz22_4
  try clear hcz22_5
  try clear hcz22_6
  try clear hcz24_0
  try clear hcz24_1
  try clear hcz24_2
  try clear hcz24_3
  try clear hcz24_4
  try clear hcz24_5
  try clear hcz24_6
  try clear hcz25_0
  try clear hcz25_1
  try clear hcz25_2
  try clear hcz25_3
  try clear hcz25_4
  try clear hcz25_5
  try clear hcz25_6
  try clear hcz27_0
  try clear hcz27_1
  try clear hcz27_2
  try clear hcz27_3
  try clear hcz27_4
  try clear hcz27_5
  try clear hcz27_6
  try clear hcz28_0
  try clear hcz28_1
  try clear hcz28_2
  try clear hcz28_3
  try clear hcz28_4
  try clear hcz28_5
  try clear hcz28_6
  try clear hcz9_0
  try clear hcz9_1
  try clear hcz9_2
  try clear hcz9_3
  try clear hcz9_4
  try clear hcz9_5
  try clear hcz9_6
  try clear hfz10_0
  try clear hfz10_1
  try clear hfz10_2
  try clear hfz10_3
  try clear hfz10_4
  try clear hfz10_5
  try clear hfz10_6
  try clear hfz15_0
  try clear hfz15_1
  try clear hfz15_2
  try clear hfz15_3
  try clear hfz15_4
  try clear hfz15_5
  try clear hfz15_6
  try clear hfz16_0
  try clear hfz16_1
  try clear hfz16_2
  try clear hfz16_3
  try clear hfz16_4
  try clear hfz16_5
  try clear hfz16_6
  try clear hfz18_0
  try clear hfz18_1
  try clear hfz18_2
  try clear hfz18_3
  try clear hfz18_4
  try clear hfz18_5
  try clear hfz18_6
  try clear hfz19_0
  try clear hfz19_1
  try clear hfz19_2
  try clear hfz19_3
  try clear hfz19_4
  try clear hfz19_5
  try clear hfz19_6
  try clear hfz21_0
  try clear hfz21_1
  try clear hfz21_2
  try clear hfz21_3
  try clear hfz21_4
  try clear hfz21_5
  try clear hfz21_6
  try clear hfz22_0
  try clear hfz22_1
  try clear hfz22_2
  try clear hfz22_3
  try clear hfz22_4
  try clear hfz22_5
  try clear hfz22_6
  try clear hfz24_0
  try clear hfz24_1
  try clear hfz24_2
  try clear hfz24_3
  try clear hfz24_4
  try clear hfz24_5
  try clear hfz24_6
  try clear hfz25_0
  try clear hfz25_1
  try clear hfz25_2
  try clear hfz25_3
  try clear hfz25_4
  try clear hfz25_5
  try clear hfz25_6
  try clear hfz27_0
  try clear hfz27_1
  try clear hfz27_2
  try clear hfz27_3
  try clear hfz27_4
  try clear hfz27_5
  try clear hfz27_6
  try clear hfz28_0
  try clear hfz28_1
  try clear hfz28_2
  try clear hfz28_3
  try clear hfz28_4
  try clear hfz28_5
  try clear hfz28_6
  try clear hfz9_0
  try clear hfz9_1
  try clear hfz9_2
  try clear hfz9_3
  try clear hfz9_4
  try clear hfz9_5
  try clear hfz9_6
  obtain ⟨kq, x47_2, rfl, HA, HJ2, BK213, BK214, HB⟩ := hcut
  cases kq with
  | zero => exact absurd HA.out (by simp [chancelref3_Same.j0])
  | succ kj2 =>
   have H := HA.out
   clear HA
   simp only [chancelref3_Same.j0] at H
   by_cases c29 : x47_2 = true
   ·
    subst c29
    have H1 : (some false) = some r := by rw [if_pos rfl] at H; exact H
    clear H
    have H := H1
    clear H1
    obtain rfl := Option.some.inj H
    go_wp2
    go_ret
    exact ⟨by first | rfl | (simp [errW_none, errW_some] <;> rfl) | (simp [*, errW_none, errW_some] <;> rfl), bl2 HB GE213 GE214⟩
   ·
    replace c29 := Bool.eq_false_iff.mpr c29
    subst c29
    have H1 : (chancelref3_Same.l0 kj2 0 a0_0 a0_1 a0_2 a0_3 a0_4 a0_5 l0_6 a1_0 a1_1 a1_2 a1_3 a1_4 a1_5 l1_6) = some r := by rw [if_neg (show ¬ (false = true) by decide)] at H; exact H
    clear H
    have H := H1
    clear H1
    have H' := aZ_ H
    clear H
    go_wp2
    go_loopg [5] kj2 (fun kq v5 w' => ∃ (x5_2 : Int), v5 = .int .i64 x5_2 ∧ Aside0 (chancelref3_Same.l0 kq x5_2 a0_0 a0_1 a0_2 a0_3 a0_4 a0_5 l0_6 a1_0 a1_1 a1_2 a1_3 a1_4 a1_5 l1_6 = some r) ∧ Aside0 (kq ≤ kj2) ∧ Aside0 (w'.heap[gb213]? = some (.cells #[.int .i64 a0_0, .bool a0_1, .int .i64 a0_2, .string a0_3, .string a0_4, .string a0_5, (.slice A0_6 l0_6.length c0_6)] 55 (0, 0))) ∧ Aside0 (w'.heap[gb214]? = some (.cells #[.int .i64 a1_0, .bool a1_1, .int .i64 a1_2, .string a1_3, .string a1_4, .string a1_5, (.slice A1_6 l1_6.length c1_6)] 55 (0, 0))) ∧ Aside0 (Below w.heap.size w w'))
    case atStart => exact ⟨(0), rf_, H', ⟨Nat.le_refl _⟩, ⟨bk BK213⟩, ⟨bk BK214⟩, ⟨bl2 HB GE213 GE214⟩⟩
    case round =>
     clear H'
     try clear c1
     try clear c2
     try clear p2
     try clear c3
     try clear c6
     try clear c6b0
     try clear c6b1
     try clear c7
     try clear c7b0
     try clear c7b1
     try clear c7b2
     try clear c8
     try clear c11
     try clear c11b0
     try clear c11b1
     try clear c12
     try clear c12b0
     try clear c12b1
     try clear c13
     try clear c13b0
     try clear c14
     try clear c17
     try clear c20
     try clear c23
     try clear c26
     try clear c29
     try clear hcz10_0
     try clear hcz10_1
     try clear hcz10_2
     try clear hcz10_3
     try clear hcz10_4
     try clear hcz10_5
     try clear hcz10_6
     try clear hcz15_0
     try clear hcz15_1
     try clear hcz15_2
     try clear hcz15_3
     try clear hcz15_4
     try clear hcz15_5
     try clear hcz15_6
     try clear hcz16_0
     try clear hcz16_1
     try clear hcz16_2
     try clear hcz16_3
     try clear hcz16_4
     try clear hcz16_5
     try clear hcz16_6
     try clear hcz18_0
     try clear hcz18_1
     try clear hcz18_2
     try clear hcz18_3
     try clear hcz18_4
     try clear hcz18_5
     try clear hcz18_6
     try clear hcz19_0
     try clear hcz19_1
     try clear hcz19_2
     try clear hcz19_3
     try clear hcz19_4
     try clear hcz19_5
     try clear hcz19_6
     try clear hcz21_0
     try clear hcz21_1
     try clear hcz21_2
     try clear hcz21_3
     try clear hcz21_4
     try clear hcz21_5
     try clear hcz21_6
     try clear hcz22_0
     try clear hcz22_1
     try clear hcz22_2
     try clear hcz22_3
     try clear hcz22_4
     try clear hcz22_5
     try clear hcz22_6
     try clear hcz24_0
     try clear hcz24_1
     try clear hcz24_2
     try clear hcz24_3
     try clear hcz24_4
     try clear hcz24_5
     try clear hcz24_6
     try clear hcz25_0
     try clear hcz25_1
     try clear hcz25_2
     try clear hcz25_3
     try clear hcz25_4
     try clear hcz25_5
     try clear hcz25_6
     try clear hcz27_0
     try clear hcz27_1
     try clear hcz27_2
     try clear hcz27_3
     try clear hcz27_4
     try clear hcz27_5
     try clear hcz27_6
     try clear hcz28_0
     try clear hcz28_1
     try clear hcz28_2
     try clear hcz28_3
     try clear hcz28_4
     try clear hcz28_5
     try clear hcz28_6
     try clear hcz9_0
     try clear hcz9_1
     try clear hcz9_2
     try clear hcz9_3
     try clear hcz9_4
     try clear hcz9_5
     try clear hcz9_6
     try clear hfz10_0
     try clear hfz10_1
     try clear hfz10_2
     try clear hfz10_3
     try clear hfz10_4
     try clear hfz10_5
     try clear hfz10_6
     try clear hfz15_0
     try clear hfz15_1
     try clear hfz15_2
     try clear hfz15_3
     try clear hfz15_4
     try clear hfz15_5
     try clear hfz15_6
     try clear hfz16_0
     try clear hfz16_1
     try clear hfz16_2
     try clear hfz16_3
     try clear hfz16_4
     try clear hfz16_5
     try clear hfz16_6
     try clear hfz18_0
     try clear hfz18_1
     try clear hfz18_2
     try clear hfz18_3
     try clear hfz18_4
     try clear hfz18_5
     try clear hfz18_6
     try clear hfz19_0
     try clear hfz19_1
     try clear hfz19_2
     try clear hfz19_3
     try clear hfz19_4
     try clear hfz19_5
     try clear hfz19_6
     try clear hfz21_0
     try clear hfz21_1
     try clear hfz21_2
     try clear hfz21_3
     try clear hfz21_4
     try clear hfz21_5
     try clear hfz21_6
     try clear hfz22_0
     try clear hfz22_1
     try clear hfz22_2
     try clear hfz22_3
     try clear hfz22_4
     try clear hfz22_5
     try clear hfz22_6
     try clear hfz24_0
     try clear hfz24_1
     try clear hfz24_2
     try clear hfz24_3
     try clear hfz24_4
     try clear hfz24_5
     try clear hfz24_6
     try clear hfz25_0
     try clear hfz25_1
     try clear hfz25_2
     try clear hfz25_3
     try clear hfz25_4
     try clear hfz25_5
     try clear hfz25_6
     try clear hfz27_0
     try clear hfz27_1
     try clear hfz27_2
     try clear hfz27_3
     try clear hfz27_4
     try clear hfz27_5
     try clear hfz27_6
     try clear hfz28_0
     try clear hfz28_1
     try clear hfz28_2
     try clear hfz28_3
     try clear hfz28_4
     try clear hfz28_5
     try clear hfz28_6
     try clear hfz9_0
     try clear hfz9_1
     try clear hfz9_2
     try clear hfz9_3
     try clear hfz9_4
     try clear hfz9_5
     try clear hfz9_6
     try clear p2
     obtain ⟨x5_2, rfl, HA, HK2, BK213, BK214, HB⟩ := hrel
     cases gk with
     | zero => exact absurd HA.out (by simp [chancelref3_Same.l0])
     | succ k2 =>
      have H := HA.out
      clear HA
      simp only [chancelref3_Same.l0] at H
      by_cases c30 : x5_2 < (l0_6.length : Int)
      ·
       rw [if_pos c30] at H
       have c30b0 : decide (x5_2 < (l0_6.length : Int)) = true := decide_eq_true c30
       clear c30
       by_cases c31 : 0 ≤ x5_2
       ·
        rw [if_pos c31] at H
        have c31b0 : decide (0 ≤ x5_2) = true := decide_eq_true c31
        clear c31
        by_cases c32 : x5_2 < (l1_6.length : Int)
        ·
         rw [if_pos c32] at H
         have c32b0 : decide (x5_2 < (l1_6.length : Int)) = true := decide_eq_true c32
         clear c32
         replace H := Option.bind_eq_some_iff.mp H
         obtain ⟨t217, A330, H⟩ := H
         replace H : (if t217 = true then (chancelref3_Same.l0 k2 (wrap64 (x5_2 + 1)) a0_0 a0_1 a0_2 a0_3 a0_4 a0_5 l0_6 a1_0 a1_1 a1_2 a1_3 a1_4 a1_5 l1_6) else (some false)) = some r := H
         have A33 := aZ_ A330
         clear A330
         by_cases c34 : t217 = true
         ·
          subst c34
          have H1 : (chancelref3_Same.l0 k2 (wrap64 (x5_2 + 1)) a0_0 a0_1 a0_2 a0_3 a0_4 a0_5 l0_6 a1_0 a1_1 a1_2 a1_3 a1_4 a1_5 l1_6) = some r := by rw [if_pos rfl] at H; exact H
          clear H
          have H := H1
          clear H1
          have H' := aZ_ H
          clear H
          have hnb35 := NB213_214.out
          have hnc35 := NB214_213.out
          obtain ⟨hcz36_0, hcz36_1, hcz36_2, hcz36_3, hcz36_4, hcz36_5, hcz36_6, hfz36_0, hfz36_1, hfz36_2, hfz36_3, hfz36_4, hfz36_5, hfz36_6⟩ := bc7 BK213
          try go_wp2
          replace BK213 := aZ_ (blk_drew BK213.out)
          replace BK214 := aZ_ (blk_drew BK214.out)
          replace HB := aZ_ (below_drew1 HB.out)
          have p215 : 0 ≤ (x5_2 : Int) := of_decide_eq_true asm_
          have q215 : x5_2 < (l0_6.length : Int) := of_decide_eq_true asm_
          obtain ⟨ad215, A215_6, c215_6, e215, hx215_0, hx215_1, hx215_2, hx215_3, hx215_4, hx215_5, hx215_6, hl215_6, hi215_6⟩ := at_T55 HR0_6.out x5_2 p215 q215
          have hw215_6 := hx215_6
          have hw215_5 := hx215_5
          have hw215_4 := hx215_4
          have hw215_3 := hx215_3
          have hw215_2 := hx215_2
          have hw215_1 := hx215_1
          have hw215_0 := hx215_0
          cases e215
          replace hx215_0 := (hbc HB.out hx215_0 :)
          replace hx215_1 := (hbc HB.out hx215_1 :)
          replace hx215_2 := (hbc HB.out hx215_2 :)
          replace hx215_3 := (hbc HB.out hx215_3 :)
          replace hx215_4 := (hbc HB.out hx215_4 :)
          replace hx215_5 := (hbc HB.out hx215_5 :)
          replace hx215_6 := (hbc HB.out hx215_6 :)
          have HR215_6 := aZ_ hi215_6
          have HC215_6 := aZ_ hl215_6
          clear hi215_6 hl215_6
          replace p215 := eq_true p215
          replace q215 := eq_true q215
          have p216 : 0 ≤ (x5_2 : Int) := of_decide_eq_true asm_
          have q216 : x5_2 < (l1_6.length : Int) := of_decide_eq_true asm_
          obtain ⟨ad216, A216_6, c216_6, e216, hx216_0, hx216_1, hx216_2, hx216_3, hx216_4, hx216_5, hx216_6, hl216_6, hi216_6⟩ := at_T55 HR1_6.out x5_2 p216 q216
          have hw216_6 := hx216_6
          have hw216_5 := hx216_5
          have hw216_4 := hx216_4
          have hw216_3 := hx216_3
          have hw216_2 := hx216_2
          have hw216_1 := hx216_1
          have hw216_0 := hx216_0
          cases e216
          replace hx216_0 := (hbc HB.out hx216_0 :)
          replace hx216_1 := (hbc HB.out hx216_1 :)
          replace hx216_2 := (hbc HB.out hx216_2 :)
          replace hx216_3 := (hbc HB.out hx216_3 :)
          replace hx216_4 := (hbc HB.out hx216_4 :)
          replace hx216_5 := (hbc HB.out hx216_5 :)
          replace hx216_6 := (hbc HB.out hx216_6 :)
          have HR216_6 := aZ_ hi216_6
          have HC216_6 := aZ_ hl216_6
          clear hi216_6 hl216_6
          replace p216 := eq_true p216
          replace q216 := eq_true q216
          refine start_ (n := 12) (S := fun w' => w'.cell? ⟨gb213, 0, none⟩ = some (.int .i64 a0_0) ∧ w'.cell? ⟨gb213, 1, none⟩ = some (.bool a0_1) ∧ w'.cell? ⟨gb213, 2, none⟩ = some (.int .i64 a0_2) ∧ w'.cell? ⟨gb213, 3, none⟩ = some (.string a0_3) ∧ w'.cell? ⟨gb213, 4, none⟩ = some (.string a0_4) ∧ w'.cell? ⟨gb213, 5, none⟩ = some (.string a0_5) ∧ w'.cell? ⟨gb213, 6, none⟩ = some (.slice (some ad215) l0_6.length c0_6) ∧ w'.cell? ⟨gb214, 0, none⟩ = some (.int .i64 a1_0) ∧ w'.cell? ⟨gb214, 1, none⟩ = some (.bool a1_1) ∧ w'.cell? ⟨gb214, 2, none⟩ = some (.int .i64 a1_2) ∧ w'.cell? ⟨gb214, 3, none⟩ = some (.string a1_3) ∧ w'.cell? ⟨gb214, 4, none⟩ = some (.string a1_4) ∧ w'.cell? ⟨gb214, 5, none⟩ = some (.string a1_5) ∧ w'.cell? ⟨gb214, 6, none⟩ = some (.slice (some ad216) l1_6.length c1_6) ∧ w'.cell? (ad215.add ((x5_2).toNat * 7)) = some (.int .i64 ((rd_T55 l0_6 x5_2).f0)) ∧ w'.cell? ⟨(ad215.add ((x5_2).toNat * 7)).block, (ad215.add ((x5_2).toNat * 7)).off + 1, none⟩ = some (.bool ((rd_T55 l0_6 x5_2).f1)) ∧ w'.cell? ⟨(ad215.add ((x5_2).toNat * 7)).block, (ad215.add ((x5_2).toNat * 7)).off + 2, none⟩ = some (.int .i64 ((rd_T55 l0_6 x5_2).f2)) ∧ w'.cell? ⟨(ad215.add ((x5_2).toNat * 7)).block, (ad215.add ((x5_2).toNat * 7)).off + 3, none⟩ = some (.string ((rd_T55 l0_6 x5_2).f3)) ∧ w'.cell? ⟨(ad215.add ((x5_2).toNat * 7)).block, (ad215.add ((x5_2).toNat * 7)).off + 4, none⟩ = some (.string ((rd_T55 l0_6 x5_2).f4.f0)) ∧ w'.cell? ⟨(ad215.add ((x5_2).toNat * 7)).block, (ad215.add ((x5_2).toNat * 7)).off + 5, none⟩ = some (.string ((rd_T55 l0_6 x5_2).f4.f1)) ∧ w'.cell? ⟨(ad215.add ((x5_2).toNat * 7)).block, (ad215.add ((x5_2).toNat * 7)).off + 6, none⟩ = some (.slice A215_6 ((rd_T55 l0_6 x5_2).f5).length c215_6) ∧ w'.cell? (ad216.add ((x5_2).toNat * 7)) = some (.int .i64 ((rd_T55 l1_6 x5_2).f0)) ∧ w'.cell? ⟨(ad216.add ((x5_2).toNat * 7)).block, (ad216.add ((x5_2).toNat * 7)).off + 1, none⟩ = some (.bool ((rd_T55 l1_6 x5_2).f1)) ∧ w'.cell? ⟨(ad216.add ((x5_2).toNat * 7)).block, (ad216.add ((x5_2).toNat * 7)).off + 2, none⟩ = some (.int .i64 ((rd_T55 l1_6 x5_2).f2)) ∧ w'.cell? ⟨(ad216.add ((x5_2).toNat * 7)).block, (ad216.add ((x5_2).toNat * 7)).off + 3, none⟩ = some (.string ((rd_T55 l1_6 x5_2).f3)) ∧ w'.cell? ⟨(ad216.add ((x5_2).toNat * 7)).block, (ad216.add ((x5_2).toNat * 7)).off + 4, none⟩ = some (.string ((rd_T55 l1_6 x5_2).f4.f0)) ∧ w'.cell? ⟨(ad216.add ((x5_2).toNat * 7)).block, (ad216.add ((x5_2).toNat * 7)).off + 5, none⟩ = some (.string ((rd_T55 l1_6 x5_2).f4.f1)) ∧ w'.cell? ⟨(ad216.add ((x5_2).toNat * 7)).block, (ad216.add ((x5_2).toNat * 7)).off + 6, none⟩ = some (.slice A216_6 ((rd_T55 l1_6 x5_2).f5).length c216_6)) (ds := []) #[false, false, false, false, false, false, false, false, false, false, false, false] (by kernel_rfl) rfl rfl ⟨(blk_cell BK213.out 0).trans rfl, (blk_cell BK213.out 1).trans rfl, (blk_cell BK213.out 2).trans rfl, (blk_cell BK213.out 3).trans rfl, (blk_cell BK213.out 4).trans rfl, (blk_cell BK213.out 5).trans rfl, (blk_cell BK213.out 6).trans rfl, (blk_cell BK214.out 0).trans rfl, (blk_cell BK214.out 1).trans rfl, (blk_cell BK214.out 2).trans rfl, (blk_cell BK214.out 3).trans rfl, (blk_cell BK214.out 4).trans rfl, (blk_cell BK214.out 5).trans rfl, (blk_cell BK214.out 6).trans rfl, ((hbc HB.out hw215_0 :)), ((hbc HB.out hw215_1 :)), ((hbc HB.out hw215_2 :)), ((hbc HB.out hw215_3 :)), ((hbc HB.out hw215_4 :)), ((hbc HB.out hw215_5 :)), ((hbc HB.out hw215_6 :)), ((hbc HB.out hw216_0 :)), ((hbc HB.out hw216_1 :)), ((hbc HB.out hw216_2 :)), ((hbc HB.out hw216_3 :)), ((hbc HB.out hw216_4 :)), ((hbc HB.out hw216_5 :)), ((hbc HB.out hw216_6 :))⟩ (fun hHeld => ?_); refine with_tabW chancelref3_Same.tab6 chancelref3_Same.bits6 (fun HT_ HW_ => ?_)
          generalize wr.drew = w37 at BK213 BK214 HB HR215_6 HR216_6 hx215_0 hx215_1 hx215_2 hx215_3 hx215_4 hx215_5 hx215_6 hx216_0 hx216_1 hx216_2 hx216_3 hx216_4 hx216_5 hx216_6 hHeld ⊢
          refine pS_ 0 55 (fa 12 1) HT_ ?_
          refine pS_ 2 57 (fa 12 5) HT_ ?_
          refine pS_ 5 60 (fa 12 37) HT_ ?_
          refine pS_ 7 62 (fa 12 165) HT_ ?_
          refine tS_ 1 56 (fa 12 167) HT_ HW_ hHeld ?_
          refine pS_ 3 58 (fa 12 175) HT_ ?_
          refine tS_ 4 59 (fa 12 191) HT_ HW_ hHeld ?_
          refine tS_ 6 61 (fa 12 255) HT_ HW_ hHeld ?_
          refine pS_ 8 63 (fa 12 511) HT_ ?_
          refine tS_ 9 64 (fa 12 1023) HT_ HW_ hHeld ?_
          refine one_ (i := 10) (N := some 65) #[true, true, true, true, true, true, true, true, true, true, true, false] rfl rfl (one_of HT_.out (by kernel_rfl)) (by decide) (fun K hK => ?_)
          refine goes_ Try.func31 (by kernel_rfl) rfl #[.agg #[.int .i64 ((rd_T55 l0_6 x5_2).f0), .bool ((rd_T55 l0_6 x5_2).f1), .int .i64 ((rd_T55 l0_6 x5_2).f2), .string ((rd_T55 l0_6 x5_2).f3), .string ((rd_T55 l0_6 x5_2).f4.f0), .string ((rd_T55 l0_6 x5_2).f4.f1), .slice A215_6 ((rd_T55 l0_6 x5_2).f5).length c215_6], .agg #[.int .i64 ((rd_T55 l1_6 x5_2).f0), .bool ((rd_T55 l1_6 x5_2).f1), .int .i64 ((rd_T55 l1_6 x5_2).f2), .string ((rd_T55 l1_6 x5_2).f3), .string ((rd_T55 l1_6 x5_2).f4.f0), .string ((rd_T55 l1_6 x5_2).f4.f1), .slice A216_6 ((rd_T55 l1_6 x5_2).f5).length c216_6]] (by rfl) rfl rfl gm_ ?_
          with_reducible refine (ih k2 (by have := HJ2.out; have := HK2.out; omega) ((rd_T55 l0_6 x5_2).f0) ((rd_T55 l0_6 x5_2).f1) ((rd_T55 l0_6 x5_2).f2) ((rd_T55 l0_6 x5_2).f3) ((rd_T55 l0_6 x5_2).f4.f0) ((rd_T55 l0_6 x5_2).f4.f1) _ _ ((rd_T55 l0_6 x5_2).f5) ((rd_T55 l1_6 x5_2).f0) ((rd_T55 l1_6 x5_2).f1) ((rd_T55 l1_6 x5_2).f2) ((rd_T55 l1_6 x5_2).f3) ((rd_T55 l1_6 x5_2).f4.f0) ((rd_T55 l1_6 x5_2).f4.f1) _ _ ((rd_T55 l1_6 x5_2).f5) true _ ?side1 ?side2 ?side3 ?side4 A33.out).mono ?_
          (case side1 => exact kC (Kd.C_below HR215_6.out HB.out))
          (case side2 => exact HC215_6.out)
          (case side3 => exact kC (Kd.C_below HR216_6.out HB.out))
          (case side4 => exact HC216_6.out)
          rintro e w38 ⟨rfl, hb⟩
          refine ⟨_, rfl, ?_⟩
          replace BK213 := aZ_ (blk_below (g := gb213) (o := .cells #[.int .i64 a0_0, .bool a0_1, .int .i64 a0_2, .string a0_3, .string a0_4, .string a0_5, .slice (some ad215) l0_6.length c0_6] 55 (0, 0)) (bk BK213) hb)
          replace BK214 := aZ_ (blk_below (g := gb214) (o := .cells #[.int .i64 a1_0, .bool a1_1, .int .i64 a1_2, .string a1_3, .string a1_4, .string a1_5, .slice (some ad216) l1_6.length c1_6] 55 (0, 0)) (bk BK214) hb)
          replace HB := aZ_ (below_step (bl2 HB GE213 GE214) hb)
          (try clear hb)
          (try clear hb2)
          (try clear hk)
          (try clear hi)
          refine hK.out _ _ ⟨(blk_cell BK213.out 0).trans rfl, (blk_cell BK213.out 1).trans rfl, (blk_cell BK213.out 2).trans rfl, (blk_cell BK213.out 3).trans rfl, (blk_cell BK213.out 4).trans rfl, (blk_cell BK213.out 5).trans rfl, (blk_cell BK213.out 6).trans rfl, (blk_cell BK214.out 0).trans rfl, (blk_cell BK214.out 1).trans rfl, (blk_cell BK214.out 2).trans rfl, (blk_cell BK214.out 3).trans rfl, (blk_cell BK214.out 4).trans rfl, (blk_cell BK214.out 5).trans rfl, (blk_cell BK214.out 6).trans rfl, ((hbc HB.out hw215_0 :)), ((hbc HB.out hw215_1 :)), ((hbc HB.out hw215_2 :)), ((hbc HB.out hw215_3 :)), ((hbc HB.out hw215_4 :)), ((hbc HB.out hw215_5 :)), ((hbc HB.out hw215_6 :)), ((hbc HB.out hw216_0 :)), ((hbc HB.out hw216_1 :)), ((hbc HB.out hw216_2 :)), ((hbc HB.out hw216_3 :)), ((hbc HB.out hw216_4 :)), ((hbc HB.out hw216_5 :)), ((hbc HB.out hw216_6 :))⟩ (fun hHeld => ?_)
          clear hK K
          refine norm_ (a' := ?_) ?_ ?_
          rotate_left
          ·
           show Act.put _ (some 65) _ = _
           simp only [Act.put, List.setIfInBounds_toArray, List.set_cons_zero, List.set_cons_succ, i64_w, i32_w]
           rfl
          refine pS_ 11 66 (fa 12 4095) HT_ ?_
          refine done_ (done_of HT_.out (by kernel_rfl)) ?_
          try go_wp2
          go_roundg k2
          case measure => have := HJ2.out; have := HK2.out; omega
          case rel => exact ⟨(wrap64 (x5_2 + 1)), rf_, H', ⟨by have := HJ2.out; have := HK2.out; omega⟩, ⟨bk BK213⟩, ⟨bk BK214⟩, ⟨bl2 HB GE213 GE214⟩⟩
         ·
          replace c34 := Bool.eq_false_iff.mpr c34
          subst c34
          have H1 : (some false) = some r := by rw [if_neg (show ¬ (false = true) by decide)] at H; exact H
          clear H
          have H := H1
          clear H1
          obtain rfl := Option.some.inj H
          have hnb39 := NB213_214.out
          have hnc39 := NB214_213.out
          obtain ⟨hcz40_0, hcz40_1, hcz40_2, hcz40_3, hcz40_4, hcz40_5, hcz40_6, hfz40_0, hfz40_1, hfz40_2, hfz40_3, hfz40_4, hfz40_5, hfz40_6⟩ := bc7 BK213
          try go_wp2
          replace BK213 := aZ_ (blk_drew BK213.out)
          replace BK214 := aZ_ (blk_drew BK214.out)
          replace HB := aZ_ (below_drew1 HB.out)
          have p215 : 0 ≤ (x5_2 : Int) := of_decide_eq_true asm_
          have q215 : x5_2 < (l0_6.length : Int) := of_decide_eq_true asm_
          obtain ⟨ad215, A215_6, c215_6, e215, hx215_0, hx215_1, hx215_2, hx215_3, hx215_4, hx215_5, hx215_6, hl215_6, hi215_6⟩ := at_T55 HR0_6.out x5_2 p215 q215
          have hw215_6 := hx215_6
          have hw215_5 := hx215_5
          have hw215_4 := hx215_4
          have hw215_3 := hx215_3
          have hw215_2 := hx215_2
          have hw215_1 := hx215_1
          have hw215_0 := hx215_0
          cases e215
          replace hx215_0 := (hbc HB.out hx215_0 :)
          replace hx215_1 := (hbc HB.out hx215_1 :)
          replace hx215_2 := (hbc HB.out hx215_2 :)
          replace hx215_3 := (hbc HB.out hx215_3 :)
          replace hx215_4 := (hbc HB.out hx215_4 :)
          replace hx215_5 := (hbc HB.out hx215_5 :)
          replace hx215_6 := (hbc HB.out hx215_6 :)
          have HR215_6 := aZ_ hi215_6
          have HC215_6 := aZ_ hl215_6
          clear hi215_6 hl215_6
          replace p215 := eq_true p215
          replace q215 := eq_true q215
          have p216 : 0 ≤ (x5_2 : Int) := of_decide_eq_true asm_
          have q216 : x5_2 < (l1_6.length : Int) := of_decide_eq_true asm_
          obtain ⟨ad216, A216_6, c216_6, e216, hx216_0, hx216_1, hx216_2, hx216_3, hx216_4, hx216_5, hx216_6, hl216_6, hi216_6⟩ := at_T55 HR1_6.out x5_2 p216 q216
          have hw216_6 := hx216_6
          have hw216_5 := hx216_5
          have hw216_4 := hx216_4
          have hw216_3 := hx216_3
          have hw216_2 := hx216_2
          have hw216_1 := hx216_1
          have hw216_0 := hx216_0
          cases e216
          replace hx216_0 := (hbc HB.out hx216_0 :)
          replace hx216_1 := (hbc HB.out hx216_1 :)
          replace hx216_2 := (hbc HB.out hx216_2 :)
          replace hx216_3 := (hbc HB.out hx216_3 :)
          replace hx216_4 := (hbc HB.out hx216_4 :)
          replace hx216_5 := (hbc HB.out hx216_5 :)
          replace hx216_6 := (hbc HB.out hx216_6 :)
          have HR216_6 := aZ_ hi216_6
          have HC216_6 := aZ_ hl216_6
          clear hi216_6 hl216_6
          replace p216 := eq_true p216
          replace q216 := eq_true q216
          refine start_ (n := 12) (S := fun w' => w'.cell? ⟨gb213, 0, none⟩ = some (.int .i64 a0_0) ∧ w'.cell? ⟨gb213, 1, none⟩ = some (.bool a0_1) ∧ w'.cell? ⟨gb213, 2, none⟩ = some (.int .i64 a0_2) ∧ w'.cell? ⟨gb213, 3, none⟩ = some (.string a0_3) ∧ w'.cell? ⟨gb213, 4, none⟩ = some (.string a0_4) ∧ w'.cell? ⟨gb213, 5, none⟩ = some (.string a0_5) ∧ w'.cell? ⟨gb213, 6, none⟩ = some (.slice (some ad215) l0_6.length c0_6) ∧ w'.cell? ⟨gb214, 0, none⟩ = some (.int .i64 a1_0) ∧ w'.cell? ⟨gb214, 1, none⟩ = some (.bool a1_1) ∧ w'.cell? ⟨gb214, 2, none⟩ = some (.int .i64 a1_2) ∧ w'.cell? ⟨gb214, 3, none⟩ = some (.string a1_3) ∧ w'.cell? ⟨gb214, 4, none⟩ = some (.string a1_4) ∧ w'.cell? ⟨gb214, 5, none⟩ = some (.string a1_5) ∧ w'.cell? ⟨gb214, 6, none⟩ = some (.slice (some ad216) l1_6.length c1_6) ∧ w'.cell? (ad215.add ((x5_2).toNat * 7)) = some (.int .i64 ((rd_T55 l0_6 x5_2).f0)) ∧ w'.cell? ⟨(ad215.add ((x5_2).toNat * 7)).block, (ad215.add ((x5_2).toNat * 7)).off + 1, none⟩ = some (.bool ((rd_T55 l0_6 x5_2).f1)) ∧ w'.cell? ⟨(ad215.add ((x5_2).toNat * 7)).block, (ad215.add ((x5_2).toNat * 7)).off + 2, none⟩ = some (.int .i64 ((rd_T55 l0_6 x5_2).f2)) ∧ w'.cell? ⟨(ad215.add ((x5_2).toNat * 7)).block, (ad215.add ((x5_2).toNat * 7)).off + 3, none⟩ = some (.string ((rd_T55 l0_6 x5_2).f3)) ∧ w'.cell? ⟨(ad215.add ((x5_2).toNat * 7)).block, (ad215.add ((x5_2).toNat * 7)).off + 4, none⟩ = some (.string ((rd_T55 l0_6 x5_2).f4.f0)) ∧ w'.cell? ⟨(ad215.add ((x5_2).toNat * 7)).block, (ad215.add ((x5_2).toNat * 7)).off + 5, none⟩ = some (.string ((rd_T55 l0_6 x5_2).f4.f1)) ∧ w'.cell? ⟨(ad215.add ((x5_2).toNat * 7)).block, (ad215.add ((x5_2).toNat * 7)).off + 6, none⟩ = some (.slice A215_6 ((rd_T55 l0_6 x5_2).f5).length c215_6) ∧ w'.cell? (ad216.add ((x5_2).toNat * 7)) = some (.int .i64 ((rd_T55 l1_6 x5_2).f0)) ∧ w'.cell? ⟨(ad216.add ((x5_2).toNat * 7)).block, (ad216.add ((x5_2).toNat * 7)).off + 1, none⟩ = some (.bool ((rd_T55 l1_6 x5_2).f1)) ∧ w'.cell? ⟨(ad216.add ((x5_2).toNat * 7)).block, (ad216.add ((x5_2).toNat * 7)).off + 2, none⟩ = some (.int .i64 ((rd_T55 l1_6 x5_2).f2)) ∧ w'.cell? ⟨(ad216.add ((x5_2).toNat * 7)).block, (ad216.add ((x5_2).toNat * 7)).off + 3, none⟩ = some (.string ((rd_T55 l1_6 x5_2).f3)) ∧ w'.cell? ⟨(ad216.add ((x5_2).toNat * 7)).block, (ad216.add ((x5_2).toNat * 7)).off + 4, none⟩ = some (.string ((rd_T55 l1_6 x5_2).f4.f0)) ∧ w'.cell? ⟨(ad216.add ((x5_2).toNat * 7)).block, (ad216.add ((x5_2).toNat * 7)).off + 5, none⟩ = some (.string ((rd_T55 l1_6 x5_2).f4.f1)) ∧ w'.cell? ⟨(ad216.add ((x5_2).toNat * 7)).block, (ad216.add ((x5_2).toNat * 7)).off + 6, none⟩ = some (.slice A216_6 ((rd_T55 l1_6 x5_2).f5).length c216_6)) (ds := []) #[false, false, false, false, false, false, false, false, false, false, false, false] (by kernel_rfl) rfl rfl ⟨(blk_cell BK213.out 0).trans rfl, (blk_cell BK213.out 1).trans rfl, (blk_cell BK213.out 2).trans rfl, (blk_cell BK213.out 3).trans rfl, (blk_cell BK213.out 4).trans rfl, (blk_cell BK213.out 5).trans rfl, (blk_cell BK213.out 6).trans rfl, (blk_cell BK214.out 0).trans rfl, (blk_cell BK214.out 1).trans rfl, (blk_cell BK214.out 2).trans rfl, (blk_cell BK214.out 3).trans rfl, (blk_cell BK214.out 4).trans rfl, (blk_cell BK214.out 5).trans rfl, (blk_cell BK214.out 6).trans rfl, ((hbc HB.out hw215_0 :)), ((hbc HB.out hw215_1 :)), ((hbc HB.out hw215_2 :)), ((hbc HB.out hw215_3 :)), ((hbc HB.out hw215_4 :)), ((hbc HB.out hw215_5 :)), ((hbc HB.out hw215_6 :)), ((hbc HB.out hw216_0 :)), ((hbc HB.out hw216_1 :)), ((hbc HB.out hw216_2 :)), ((hbc HB.out hw216_3 :)), ((hbc HB.out hw216_4 :)), ((hbc HB.out hw216_5 :)), ((hbc HB.out hw216_6 :))⟩ (fun hHeld => ?_); refine with_tabW chancelref3_Same.tab6 chancelref3_Same.bits6 (fun HT_ HW_ => ?_)
          generalize wr.drew = w41 at BK213 BK214 HB HR215_6 HR216_6 hx215_0 hx215_1 hx215_2 hx215_3 hx215_4 hx215_5 hx215_6 hx216_0 hx216_1 hx216_2 hx216_3 hx216_4 hx216_5 hx216_6 hHeld ⊢
          refine pS_ 0 55 (fa 12 1) HT_ ?_
          refine pS_ 2 57 (fa 12 5) HT_ ?_
          refine pS_ 5 60 (fa 12 37) HT_ ?_
          refine pS_ 7 62 (fa 12 165) HT_ ?_
          refine tS_ 1 56 (fa 12 167) HT_ HW_ hHeld ?_
          refine pS_ 3 58 (fa 12 175) HT_ ?_
          refine tS_ 4 59 (fa 12 191) HT_ HW_ hHeld ?_
          refine tS_ 6 61 (fa 12 255) HT_ HW_ hHeld ?_
          refine pS_ 8 63 (fa 12 511) HT_ ?_
          refine tS_ 9 64 (fa 12 1023) HT_ HW_ hHeld ?_
          refine one_ (i := 10) (N := some 65) #[true, true, true, true, true, true, true, true, true, true, true, false] rfl rfl (one_of HT_.out (by kernel_rfl)) (by decide) (fun K hK => ?_)
          refine goes_ Try.func31 (by kernel_rfl) rfl #[.agg #[.int .i64 ((rd_T55 l0_6 x5_2).f0), .bool ((rd_T55 l0_6 x5_2).f1), .int .i64 ((rd_T55 l0_6 x5_2).f2), .string ((rd_T55 l0_6 x5_2).f3), .string ((rd_T55 l0_6 x5_2).f4.f0), .string ((rd_T55 l0_6 x5_2).f4.f1), .slice A215_6 ((rd_T55 l0_6 x5_2).f5).length c215_6], .agg #[.int .i64 ((rd_T55 l1_6 x5_2).f0), .bool ((rd_T55 l1_6 x5_2).f1), .int .i64 ((rd_T55 l1_6 x5_2).f2), .string ((rd_T55 l1_6 x5_2).f3), .string ((rd_T55 l1_6 x5_2).f4.f0), .string ((rd_T55 l1_6 x5_2).f4.f1), .slice A216_6 ((rd_T55 l1_6 x5_2).f5).length c216_6]] (by rfl) rfl rfl gm_ ?_
          with_reducible refine (ih k2 (by have := HJ2.out; have := HK2.out; omega) ((rd_T55 l0_6 x5_2).f0) ((rd_T55 l0_6 x5_2).f1) ((rd_T55 l0_6 x5_2).f2) ((rd_T55 l0_6 x5_2).f3) ((rd_T55 l0_6 x5_2).f4.f0) ((rd_T55 l0_6 x5_2).f4.f1) _ _ ((rd_T55 l0_6 x5_2).f5) ((rd_T55 l1_6 x5_2).f0) ((rd_T55 l1_6 x5_2).f1) ((rd_T55 l1_6 x5_2).f2) ((rd_T55 l1_6 x5_2).f3) ((rd_T55 l1_6 x5_2).f4.f0) ((rd_T55 l1_6 x5_2).f4.f1) _ _ ((rd_T55 l1_6 x5_2).f5) false _ ?side1 ?side2 ?side3 ?side4 A33.out).mono ?_
          (case side1 => exact kC (Kd.C_below HR215_6.out HB.out))
          (case side2 => exact HC215_6.out)
          (case side3 => exact kC (Kd.C_below HR216_6.out HB.out))
          (case side4 => exact HC216_6.out)
          rintro e w42 ⟨rfl, hb⟩
          refine ⟨_, rfl, ?_⟩
          replace BK213 := aZ_ (blk_below (g := gb213) (o := .cells #[.int .i64 a0_0, .bool a0_1, .int .i64 a0_2, .string a0_3, .string a0_4, .string a0_5, .slice (some ad215) l0_6.length c0_6] 55 (0, 0)) (bk BK213) hb)
          replace BK214 := aZ_ (blk_below (g := gb214) (o := .cells #[.int .i64 a1_0, .bool a1_1, .int .i64 a1_2, .string a1_3, .string a1_4, .string a1_5, .slice (some ad216) l1_6.length c1_6] 55 (0, 0)) (bk BK214) hb)
          replace HB := aZ_ (below_step (bl2 HB GE213 GE214) hb)
          (try clear hb)
          (try clear hb2)
          (try clear hk)
          (try clear hi)
          refine hK.out _ _ ⟨(blk_cell BK213.out 0).trans rfl, (blk_cell BK213.out 1).trans rfl, (blk_cell BK213.out 2).trans rfl, (blk_cell BK213.out 3).trans rfl, (blk_cell BK213.out 4).trans rfl, (blk_cell BK213.out 5).trans rfl, (blk_cell BK213.out 6).trans rfl, (blk_cell BK214.out 0).trans rfl, (blk_cell BK214.out 1).trans rfl, (blk_cell BK214.out 2).trans rfl, (blk_cell BK214.out 3).trans rfl, (blk_cell BK214.out 4).trans rfl, (blk_cell BK214.out 5).trans rfl, (blk_cell BK214.out 6).trans rfl, ((hbc HB.out hw215_0 :)), ((hbc HB.out hw215_1 :)), ((hbc HB.out hw215_2 :)), ((hbc HB.out hw215_3 :)), ((hbc HB.out hw215_4 :)), ((hbc HB.out hw215_5 :)), ((hbc HB.out hw215_6 :)), ((hbc HB.out hw216_0 :)), ((hbc HB.out hw216_1 :)), ((hbc HB.out hw216_2 :)), ((hbc HB.out hw216_3 :)), ((hbc HB.out hw216_4 :)), ((hbc HB.out hw216_5 :)), ((hbc HB.out hw216_6 :))⟩ (fun hHeld => ?_)
          clear hK K
          refine norm_ (a' := ?_) ?_ ?_
          rotate_left
          ·
           show Act.put _ (some 65) _ = _
           simp only [Act.put, List.setIfInBounds_toArray, List.set_cons_zero, List.set_cons_succ, i64_w, i32_w]
           rfl
          refine pS_ 11 66 (fa 12 4095) HT_ ?_
          refine done_ (done_of HT_.out (by kernel_rfl)) ?_
          try go_wp2
          go_ret
          exact ⟨by first | rfl | (simp [errW_none, errW_some] <;> rfl) | (simp [*, errW_none, errW_some] <;> rfl), bl2 HB GE213 GE214⟩
        ·
         rw [if_neg c32] at H
         exact absurd H (by simp)
       ·
        rw [if_neg c31] at H
        exact absurd H (by simp)
      ·
       rw [if_neg c30] at H
       have c30b0 : decide (x5_2 < (l0_6.length : Int)) = false := decide_eq_false c30
       clear c30
       obtain rfl := Option.some.inj H
       have hnb43 := NB213_214.out
       have hnc43 := NB214_213.out
       obtain ⟨hcz44_0, hcz44_1, hcz44_2, hcz44_3, hcz44_4, hcz44_5, hcz44_6, hfz44_0, hfz44_1, hfz44_2, hfz44_3, hfz44_4, hfz44_5, hfz44_6⟩ := bc7 BK213
       go_wp2
       go_ret
       exact ⟨by first | rfl | (simp [errW_none, errW_some] <;> rfl) | (simp [*, errW_none, errW_some] <;> rfl), bl2 HB GE213 GE214⟩

end Go.Proofs.Ytelibndkkokadaa.GB
