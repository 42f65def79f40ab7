-- Written by wip/tools/gprint.py over the kit's printer.
import Derived.Test.YtfmghijmcgkpiaaGO0
import Derived.Test.YtfmghijmcgkpiaaGO5
import Derived.Test.YtfmghijmcgkpiaaSqz
namespace Go.Proofs.Ytfmghijmcgkpiaa.GO
open Go.RowKit Go.Proofs.YtfmghijmcgkpiaaW.PrintWords Go.Proofs.YtfmghijmcgkpiaaW.PrintLast Go.Proofs.Ytfmghijmcgkpiaa.HandV Go.Proofs.YtfmghijmcgkpiaaW.PrintMore
attribute [local go_sem] max2_int min2_int max_two min_two max_three min_three max_four min_four   -- for this text's walks alone
set_option linter.unusedVariables false
set_option linter.unusedSimpArgs false

/-! ### chancelref3_Less: function 119 -/
mutual
def chancelref3_Less.l0 : Nat → Int → Int → Bool → Int → ByteArray → ByteArray → ByteArray → List (S31) → Int → Bool → Int → ByteArray → ByteArray → ByteArray → List (S31) → Option (Bool)
 | 0, _, _, _, _, _, _, _, _, _, _, _, _, _, _, _ => none
 | k + 1, x5, x169000, x169001, x169002, x169003, x169004, x169005, x169006, x170000, x170001, x170002, x170003, x170004, x170005, x170006 => if x5 < (x169006.length : Int) then (chancelref3_Less.j1 k x5 (decide (x5 < (x170006.length : Int))) x169000 x169001 x169002 x169003 x169004 x169005 x169006 x170000 x170001 x170002 x170003 x170004 x170005 x170006) else (chancelref3_Less.j1 k x5 false x169000 x169001 x169002 x169003 x169004 x169005 x169006 x170000 x170001 x170002 x170003 x170004 x170005 x170006)
def chancelref3_Less.j1 : Nat → Int → Bool → Int → Bool → Int → ByteArray → ByteArray → ByteArray → List (S31) → Int → Bool → Int → ByteArray → ByteArray → ByteArray → List (S31) → Option (Bool)
 | 0, _, _, _, _, _, _, _, _, _, _, _, _, _, _, _, _ => none
 | k + 1, x5, x59, x169000, x169001, x169002, x169003, x169004, x169005, x169006, x170000, x170001, x170002, x170003, x170004, x170005, x170006 => if x59 = true then (if 0 ≤ x5 then (if x5 < (x169006.length : Int) then (if x5 < (x170006.length : Int) then ((chancelref3_Less.f k ((rd_T31 x169006 x5).f0) ((rd_T31 x169006 x5).f1) ((rd_T31 x169006 x5).f2) ((rd_T31 x169006 x5).f3) ((rd_T31 x169006 x5).f4.f0) ((rd_T31 x169006 x5).f4.f1) ((rd_T31 x169006 x5).f5) ((rd_T31 x170006 x5).f0) ((rd_T31 x170006 x5).f1) ((rd_T31 x170006 x5).f2) ((rd_T31 x170006 x5).f3) ((rd_T31 x170006 x5).f4.f0) ((rd_T31 x170006 x5).f4.f1) ((rd_T31 x170006 x5).f5)).bind fun t173 => (if t173 = true then (some true) else ((chancelref3_Less.f k ((rd_T31 x170006 x5).f0) ((rd_T31 x170006 x5).f1) ((rd_T31 x170006 x5).f2) ((rd_T31 x170006 x5).f3) ((rd_T31 x170006 x5).f4.f0) ((rd_T31 x170006 x5).f4.f1) ((rd_T31 x170006 x5).f5) ((rd_T31 x169006 x5).f0) ((rd_T31 x169006 x5).f1) ((rd_T31 x169006 x5).f2) ((rd_T31 x169006 x5).f3) ((rd_T31 x169006 x5).f4.f0) ((rd_T31 x169006 x5).f4.f1) ((rd_T31 x169006 x5).f5)).bind fun t176 => (if t176 = true then (some false) else (chancelref3_Less.l0 k (wrap64 (x5 + 1)) x169000 x169001 x169002 x169003 x169004 x169005 x169006 x170000 x170001 x170002 x170003 x170004 x170005 x170006))))) else (none)) else (none)) else (none)) else (some (decide ((x169006.length : Int) < (x170006.length : Int))))
def chancelref3_Less.f : Nat → Int → Bool → Int → ByteArray → ByteArray → ByteArray → List (S31) → Int → Bool → Int → ByteArray → ByteArray → ByteArray → List (S31) → Option (Bool)
 | 0, _, _, _, _, _, _, _, _, _, _, _, _, _, _ => none
 | k + 1, a0_0, a0_1, a0_2, a0_3, a0_4, a0_5, l0_6, a1_0, a1_1, a1_2, a1_3, a1_4, a1_5, l1_6 => if a0_0 = a1_0 then (if a0_0 = 1 then (if a0_1 = true then (some false) else (some a1_1)) else (if a0_0 = 2 then (some (decide (a0_2 < a1_2))) else (if a0_0 = 3 then (some (Op.bytesLess a0_3.toList a1_3.toList)) else (if a0_0 = 4 then ((chancelref3_LessUid.f a0_4 a0_5 a1_4 a1_5).bind fun t170 => (some t170)) else (chancelref3_Less.l0 k 0 a0_0 a0_1 a0_2 a0_3 a0_4 a0_5 l0_6 a1_0 a1_1 a1_2 a1_3 a1_4 a1_5 l1_6))))) else (some (decide (a0_0 < a1_0)))
end
theorem chancelref3_Less.mono_l : ∀ k, (∀ y0 y1 y2 y3 y4 y5 y6 y7 y8 y9 y10 y11 y12 y13, LeO (chancelref3_Less.f k y0 y1 y2 y3 y4 y5 y6 y7 y8 y9 y10 y11 y12 y13) (chancelref3_Less.f (k + 1) y0 y1 y2 y3 y4 y5 y6 y7 y8 y9 y10 y11 y12 y13)) ∧ (∀ y0 y1 y2 y3 y4 y5 y6 y7 y8 y9 y10 y11 y12 y13 y14, LeO (chancelref3_Less.l0 k y0 y1 y2 y3 y4 y5 y6 y7 y8 y9 y10 y11 y12 y13 y14) (chancelref3_Less.l0 (k + 1) y0 y1 y2 y3 y4 y5 y6 y7 y8 y9 y10 y11 y12 y13 y14)) ∧ (∀ y0 y1 y2 y3 y4 y5 y6 y7 y8 y9 y10 y11 y12 y13 y14 y15, LeO (chancelref3_Less.j1 k y0 y1 y2 y3 y4 y5 y6 y7 y8 y9 y10 y11 y12 y13 y14 y15) (chancelref3_Less.j1 (k + 1) y0 y1 y2 y3 y4 y5 y6 y7 y8 y9 y10 y11 y12 y13 y14 y15))
 | 0 => ⟨fun _ _ _ _ _ _ _ _ _ _ _ _ _ _ r h => by simp [chancelref3_Less.f] at h, fun _ _ _ _ _ _ _ _ _ _ _ _ _ _ _ r h => by simp [chancelref3_Less.l0] at h, fun _ _ _ _ _ _ _ _ _ _ _ _ _ _ _ _ r h => by simp [chancelref3_Less.j1] at h⟩
 | k + 1 => by
  obtain ⟨ih0, ih1, ih2⟩ := chancelref3_Less.mono_l k
  refine ⟨?_, ?_, ?_⟩
  ·
   intro y0 y1 y2 y3 y4 y5 y6 y7 y8 y9 y10 y11 y12 y13
   unfold chancelref3_Less.f
   repeat' first
   | (with_reducible exact ih0 _ _ _ _ _ _ _ _ _ _ _ _ _ _)
   | (with_reducible exact ih1 _ _ _ _ _ _ _ _ _ _ _ _ _ _ _)
   | (with_reducible exact ih2 _ _ _ _ _ _ _ _ _ _ _ _ _ _ _ _)
   | (with_reducible exact LeO.refl _)
   | (with_reducible exact LeO.none _)
   | (with_reducible refine LeO.ite ?_ ?_)
   | (with_reducible refine LeO.bind ?_ (fun _ => ?_))
   | exact ih0 _ _ _ _ _ _ _ _ _ _ _ _ _ _
   | exact ih1 _ _ _ _ _ _ _ _ _ _ _ _ _ _ _
   | exact ih2 _ _ _ _ _ _ _ _ _ _ _ _ _ _ _ _
   | exact LeO.none _
   | refine LeO.ite ?_ ?_
   | refine LeO.bind ?_ (fun _ => ?_)
  ·
   intro y0 y1 y2 y3 y4 y5 y6 y7 y8 y9 y10 y11 y12 y13 y14
   unfold chancelref3_Less.l0
   repeat' first
   | (with_reducible exact ih0 _ _ _ _ _ _ _ _ _ _ _ _ _ _)
   | (with_reducible exact ih1 _ _ _ _ _ _ _ _ _ _ _ _ _ _ _)
   | (with_reducible exact ih2 _ _ _ _ _ _ _ _ _ _ _ _ _ _ _ _)
   | (with_reducible exact LeO.refl _)
   | (with_reducible exact LeO.none _)
   | (with_reducible refine LeO.ite ?_ ?_)
   | (with_reducible refine LeO.bind ?_ (fun _ => ?_))
   | exact ih0 _ _ _ _ _ _ _ _ _ _ _ _ _ _
   | exact ih1 _ _ _ _ _ _ _ _ _ _ _ _ _ _ _
   | exact ih2 _ _ _ _ _ _ _ _ _ _ _ _ _ _ _ _
   | exact LeO.none _
   | refine LeO.ite ?_ ?_
   | refine LeO.bind ?_ (fun _ => ?_)
  ·
   intro y0 y1 y2 y3 y4 y5 y6 y7 y8 y9 y10 y11 y12 y13 y14 y15
   unfold chancelref3_Less.j1
   repeat' first
   | (with_reducible exact ih0 _ _ _ _ _ _ _ _ _ _ _ _ _ _)
   | (with_reducible exact ih1 _ _ _ _ _ _ _ _ _ _ _ _ _ _ _)
   | (with_reducible exact ih2 _ _ _ _ _ _ _ _ _ _ _ _ _ _ _ _)
   | (with_reducible exact LeO.refl _)
   | (with_reducible exact LeO.none _)
   | (with_reducible refine LeO.ite ?_ ?_)
   | (with_reducible refine LeO.bind ?_ (fun _ => ?_))
   | exact ih0 _ _ _ _ _ _ _ _ _ _ _ _ _ _
   | exact ih1 _ _ _ _ _ _ _ _ _ _ _ _ _ _ _
   | exact ih2 _ _ _ _ _ _ _ _ _ _ _ _ _ _ _ _
   | exact LeO.none _
   | refine LeO.ite ?_ ?_
   | refine LeO.bind ?_ (fun _ => ?_)
theorem chancelref3_Less.mono : ∀ a0 a1 a2 a3 a4 a5 a6 a7 a8 a9 a10 a11 a12 a13 k, LeO (chancelref3_Less.f k a0 a1 a2 a3 a4 a5 a6 a7 a8 a9 a10 a11 a12 a13) (chancelref3_Less.f (k + 1) a0 a1 a2 a3 a4 a5 a6 a7 a8 a9 a10 a11 a12 a13) := by
 intro a0 a1 a2 a3 a4 a5 a6 a7 a8 a9 a10 a11 a12 a13 k
 obtain ⟨ih0, ih1, ih2⟩ := chancelref3_Less.mono_l k
 exact ih0 a0 a1 a2 a3 a4 a5 a6 a7 a8 a9 a10 a11 a12 a13
def chancelref3_Less.T15 : Bool × List (List Nat × List Nat) := (true, [([], []), ([0], [0]), ([], []), ([1, 2], [1, 2]), ([3], [3]), ([], []), ([5], [5]), ([], []), ([6, 7], [6, 7]), ([8], [8]), ([4, 9], [4, 9])])
def chancelref3_Less.B15 : List Nat := [0, 1, 0, 7, 15, 0, 32, 0, 224, 480, 1023]
theorem chancelref3_Less.tab15 : rtab .any (opsOf Try.f119 15) = chancelref3_Less.T15 := by kernel_rfl
theorem chancelref3_Less.bits15 : waitsOk chancelref3_Less.T15.2 chancelref3_Less.B15 = true := by kernel_rfl
def chancelref3_Less.T17 : Bool × List (List Nat × List Nat) := (true, [([], []), ([0], [0]), ([], []), ([1, 2], [1, 2]), ([3], [3]), ([], []), ([5], [5]), ([], []), ([6, 7], [6, 7]), ([8], [8]), ([4, 9], [4, 9])])
def chancelref3_Less.B17 : List Nat := [0, 1, 0, 7, 15, 0, 32, 0, 224, 480, 1023]
theorem chancelref3_Less.tab17 : rtab .any (opsOf Try.f119 17) = chancelref3_Less.T17 := by kernel_rfl
theorem chancelref3_Less.bits17 : waitsOk chancelref3_Less.T17.2 chancelref3_Less.B17 = true := by kernel_rfl
set_option maxHeartbeats 8000000 in
set_option maxRecDepth 100000 in
theorem chancelref3_Less.calls (k : Nat) : ∀ (a0_0 : Int) (a0_1 : Bool) (a0_2 : Int) (a0_3 : ByteArray) (a0_4 : ByteArray) (a0_5 : ByteArray) (A0_6 : Option Addr) (c0_6 : Nat) (l0_6 : List (S31)) (a1_0 : Int) (a1_1 : Bool) (a1_2 : Int) (a1_3 : ByteArray) (a1_4 : ByteArray) (a1_5 : ByteArray) (A1_6 : Option Addr) (c1_6 : Nat) (l1_6 : List (S31)) (r : Bool) (w : World) (hr0_6 : Kd.C k31 w A0_6 l0_6.length l0_6) (hc0_6 : l0_6.length ≤ c0_6) (hr1_6 : Kd.C k31 w A1_6 l1_6.length l1_6) (hc1_6 : l1_6.length ≤ c1_6) (h : chancelref3_Less.f k a0_0 a0_1 a0_2 a0_3 a0_4 a0_5 l0_6 a1_0 a1_1 a1_2 a1_3 a1_4 a1_5 l1_6 = some r),
  Calls Try.prog 119 #[.agg #[.int .i64 a0_0, .bool a0_1, .int .i64 a0_2, .string a0_3, .string a0_4, .string a0_5, .slice A0_6 l0_6.length c0_6], .agg #[.int .i64 a1_0, .bool a1_1, .int .i64 a1_2, .string a1_3, .string a1_4, .string a1_5, .slice A1_6 l1_6.length c1_6]] w fun e w' => e = .returned (.bool r) ∧ Below w.heap.size w w' := by
 induction k using Nat.strongRecOn with
 | _ k ih =>
 intro a0_0 a0_1 a0_2 a0_3 a0_4 a0_5 A0_6 c0_6 l0_6 a1_0 a1_1 a1_2 a1_3 a1_4 a1_5 A1_6 c1_6 l1_6 r w hr0_6 hc0_6 hr1_6 hc1_6 h
 cases k with
 | zero => exact absurd h (by simp [chancelref3_Less.f])
 | succ k =>
 simp only [chancelref3_Less.f] at h
 have hu31 := Try.underlying31
 have hu28 := Try.underlying28
 have HR0_6 := aZ_ hr0_6
 have HC0_6 := aZ_ hc0_6
 clear hr0_6 hc0_6
 have HR1_6 := aZ_ hr1_6
 have HC1_6 := aZ_ hc1_6
 clear hr1_6 hc1_6
 have HB := aZ_ (Below.refl w.heap.size w)
 have H : (if a0_0 = a1_0 then (if a0_0 = 1 then (if a0_1 = true then (some false) else (some a1_1)) else (if a0_0 = 2 then (some (decide (a0_2 < a1_2))) else (if a0_0 = 3 then (some (Op.bytesLess a0_3.toList a1_3.toList)) else (if a0_0 = 4 then ((chancelref3_LessUid.f a0_4 a0_5 a1_4 a1_5).bind fun t170 => (some t170)) else (chancelref3_Less.l0 k 0 a0_0 a0_1 a0_2 a0_3 a0_4 a0_5 l0_6 a1_0 a1_1 a1_2 a1_3 a1_4 a1_5 l1_6))))) else (some (decide (a0_0 < a1_0)))) = some r := h
 clear h
 by_cases c3 : a0_0 = a1_0
 ·
  rw [if_pos c3] at H
  have c3b0 : (a0_0 == a1_0) = true := beq_iff_eq.mpr c3
  have c3b1 : (a0_0 != a1_0) = false := bne_eq_false_iff_eq.mpr c3
  clear c3
  by_cases c4 : a0_0 = 1
  ·
   rw [if_pos c4] at H
   have c4b0 : (a0_0 == 1) = true := beq_iff_eq.mpr c4
   have c4b1 : (a0_0 != 1) = false := bne_eq_false_iff_eq.mpr c4
   clear c4
   by_cases c5 : a0_1 = true
   ·
    subst c5
    have H1 : (some false) = some r := by rw [if_pos rfl] at H; exact H
    clear H
    have H := H1
    clear H1
    obtain rfl := Option.some.inj H
    go_enter Try.func119, Try.ntmps119
    go_wp2_with (first | ((with_reducible refine gate_dst (N := 2) rfl ?_); (try (refine gate_guard (by rfl) ?_; dsimp only)); refine bxE 2 #[.int .i64 a0_0, .bool true, .int .i64 a0_2, .string a0_3, .string a0_4, .string a0_5, .slice A0_6 l0_6.length c0_6] 31 ?_; intro gb168 hg w6 hbox hb; have BK168 := aZ_ (hbox); have GW168 := aZ_ ((by rw [hg]; exact (below_size (bl HB)) : w.heap.size ≤ gb168)); have GE168 := aZ_ ((by rw [hg]; exact (below_size (bl HB)) : w.heap.size ≤ gb168)); replace HB := aZ_ (below_step (bl HB) hb); clear hb hbox hg) | ((with_reducible refine gate_dst (N := 3) rfl ?_); (try (refine gate_guard (by rfl) ?_; dsimp only)); refine bxE 3 #[.int .i64 a1_0, .bool a1_1, .int .i64 a1_2, .string a1_3, .string a1_4, .string a1_5, .slice A1_6 l1_6.length c1_6] 31 ?_; intro gb169 hg w7 hbox hb; have BK169 := aZ_ (hbox); have GW169 := aZ_ ((by rw [hg]; exact (below_size (bl1 HB GE168)) : w.heap.size ≤ gb169)); have GE169 := aZ_ ((by rw [hg]; exact (below_size (bl1 HB GE168)) : w.heap.size ≤ gb169)); replace HB := aZ_ (below_step (bl1 HB GE168) hb); have NB168_169 := aZ_ ((by rw [hg]; exact Nat.ne_of_lt (blk_lt (g := gb168) (o := .cells #[.int .i64 a0_0, .bool true, .int .i64 a0_2, .string a0_3, .string a0_4, .string a0_5, .slice A0_6 l0_6.length c0_6] 31 (0, 0)) (bk BK168)) : gb168 ≠ gb169)); have NB169_168 := aZ_ ((by rw [hg]; exact Nat.ne_of_gt (blk_lt (g := gb168) (o := .cells #[.int .i64 a0_0, .bool true, .int .i64 a0_2, .string a0_3, .string a0_4, .string a0_5, .slice A0_6 l0_6.length c0_6] 31 (0, 0)) (bk BK168)) : gb169 ≠ gb168)); replace BK168 := aZ_ (blk_below (g := gb168) (o := .cells #[.int .i64 a0_0, .bool true, .int .i64 a0_2, .string a0_3, .string a0_4, .string a0_5, .slice A0_6 l0_6.length c0_6] 31 (0, 0)) (bk BK168) hb); clear hb hbox hg; have hnb8 := NB168_169.out; have hnc8 := NB169_168.out; obtain ⟨hcz9_0, hcz9_1, hcz9_2, hcz9_3, hcz9_4, hcz9_5, hcz9_6, hfz9_0, hfz9_1, hfz9_2, hfz9_3, hfz9_4, hfz9_5, hfz9_6⟩ := bc7 BK168; obtain ⟨hcz10_0, hcz10_1, hcz10_2, hcz10_3, hcz10_4, hcz10_5, hcz10_6, hfz10_0, hfz10_1, hfz10_2, hfz10_3, hfz10_4, hfz10_5, hfz10_6⟩ := bc7 BK169))
    go_ret
    exact ⟨by first | rfl | (simp [errW_none, errW_some] <;> rfl) | (simp [*, errW_none, errW_some] <;> rfl), bl2 HB GE168 GE169⟩
   ·
    replace c5 := Bool.eq_false_iff.mpr c5
    subst c5
    have H1 : (some a1_1) = some r := by rw [if_neg (show ¬ (false = true) by decide)] at H; exact H
    clear H
    have H := H1
    clear H1
    obtain rfl := Option.some.inj H
    go_enter Try.func119, Try.ntmps119
    go_wp2_with (first | ((with_reducible refine gate_dst (N := 2) rfl ?_); (try (refine gate_guard (by rfl) ?_; dsimp only)); refine bxE 2 #[.int .i64 a0_0, .bool false, .int .i64 a0_2, .string a0_3, .string a0_4, .string a0_5, .slice A0_6 l0_6.length c0_6] 31 ?_; intro gb168 hg w11 hbox hb; have BK168 := aZ_ (hbox); have GW168 := aZ_ ((by rw [hg]; exact (below_size (bl HB)) : w.heap.size ≤ gb168)); have GE168 := aZ_ ((by rw [hg]; exact (below_size (bl HB)) : w.heap.size ≤ gb168)); replace HB := aZ_ (below_step (bl HB) hb); clear hb hbox hg) | ((with_reducible refine gate_dst (N := 3) rfl ?_); (try (refine gate_guard (by rfl) ?_; dsimp only)); refine bxE 3 #[.int .i64 a1_0, .bool a1_1, .int .i64 a1_2, .string a1_3, .string a1_4, .string a1_5, .slice A1_6 l1_6.length c1_6] 31 ?_; intro gb169 hg w12 hbox hb; have BK169 := aZ_ (hbox); have GW169 := aZ_ ((by rw [hg]; exact (below_size (bl1 HB GE168)) : w.heap.size ≤ gb169)); have GE169 := aZ_ ((by rw [hg]; exact (below_size (bl1 HB GE168)) : w.heap.size ≤ gb169)); replace HB := aZ_ (below_step (bl1 HB GE168) hb); have NB168_169 := aZ_ ((by rw [hg]; exact Nat.ne_of_lt (blk_lt (g := gb168) (o := .cells #[.int .i64 a0_0, .bool false, .int .i64 a0_2, .string a0_3, .string a0_4, .string a0_5, .slice A0_6 l0_6.length c0_6] 31 (0, 0)) (bk BK168)) : gb168 ≠ gb169)); have NB169_168 := aZ_ ((by rw [hg]; exact Nat.ne_of_gt (blk_lt (g := gb168) (o := .cells #[.int .i64 a0_0, .bool false, .int .i64 a0_2, .string a0_3, .string a0_4, .string a0_5, .slice A0_6 l0_6.length c0_6] 31 (0, 0)) (bk BK168)) : gb169 ≠ gb168)); replace BK168 := aZ_ (blk_below (g := gb168) (o := .cells #[.int .i64 a0_0, .bool false, .int .i64 a0_2, .string a0_3, .string a0_4, .string a0_5, .slice A0_6 l0_6.length c0_6] 31 (0, 0)) (bk BK168) hb); clear hb hbox hg; have hnb13 := NB168_169.out; have hnc13 := NB169_168.out; obtain ⟨hcz14_0, hcz14_1, hcz14_2, hcz14_3, hcz14_4, hcz14_5, hcz14_6, hfz14_0, hfz14_1, hfz14_2, hfz14_3, hfz14_4, hfz14_5, hfz14_6⟩ := bc7 BK168; obtain ⟨hcz15_0, hcz15_1, hcz15_2, hcz15_3, hcz15_4, hcz15_5, hcz15_6, hfz15_0, hfz15_1, hfz15_2, hfz15_3, hfz15_4, hfz15_5, hfz15_6⟩ := bc7 BK169))
    go_ret
    exact ⟨by first | rfl | (simp [errW_none, errW_some] <;> rfl) | (simp [*, errW_none, errW_some] <;> rfl), bl2 HB GE168 GE169⟩
  ·
   rw [if_neg c4] at H
   have c4b0 : (a0_0 == 1) = false := beq_eq_false_iff_ne.mpr c4
   have c4b1 : (a0_0 != 1) = true := bne_iff_ne.mpr c4
   by_cases c16 : a0_0 = 2
   ·
    rw [if_pos c16] at H
    have c16b0 : (a0_0 == 2) = true := beq_iff_eq.mpr c16
    have c16b1 : (a0_0 != 2) = false := bne_eq_false_iff_eq.mpr c16
    clear c16
    obtain rfl := Option.some.inj H
    go_enter Try.func119, Try.ntmps119
    go_wp2_with (first | ((with_reducible refine gate_dst (N := 2) rfl ?_); (try (refine gate_guard (by rfl) ?_; dsimp only)); refine bxE 2 #[.int .i64 a0_0, .bool a0_1, .int .i64 a0_2, .string a0_3, .string a0_4, .string a0_5, .slice A0_6 l0_6.length c0_6] 31 ?_; intro gb168 hg w17 hbox hb; have BK168 := aZ_ (hbox); have GW168 := aZ_ ((by rw [hg]; exact (below_size (bl HB)) : w.heap.size ≤ gb168)); have GE168 := aZ_ ((by rw [hg]; exact (below_size (bl HB)) : w.heap.size ≤ gb168)); replace HB := aZ_ (below_step (bl HB) hb); clear hb hbox hg) | ((with_reducible refine gate_dst (N := 3) rfl ?_); (try (refine gate_guard (by rfl) ?_; dsimp only)); refine bxE 3 #[.int .i64 a1_0, .bool a1_1, .int .i64 a1_2, .string a1_3, .string a1_4, .string a1_5, .slice A1_6 l1_6.length c1_6] 31 ?_; intro gb169 hg w18 hbox hb; have BK169 := aZ_ (hbox); have GW169 := aZ_ ((by rw [hg]; exact (below_size (bl1 HB GE168)) : w.heap.size ≤ gb169)); have GE169 := aZ_ ((by rw [hg]; exact (below_size (bl1 HB GE168)) : w.heap.size ≤ gb169)); replace HB := aZ_ (below_step (bl1 HB GE168) hb); have NB168_169 := aZ_ ((by rw [hg]; exact Nat.ne_of_lt (blk_lt (g := gb168) (o := .cells #[.int .i64 a0_0, .bool a0_1, .int .i64 a0_2, .string a0_3, .string a0_4, .string a0_5, .slice A0_6 l0_6.length c0_6] 31 (0, 0)) (bk BK168)) : gb168 ≠ gb169)); have NB169_168 := aZ_ ((by rw [hg]; exact Nat.ne_of_gt (blk_lt (g := gb168) (o := .cells #[.int .i64 a0_0, .bool a0_1, .int .i64 a0_2, .string a0_3, .string a0_4, .string a0_5, .slice A0_6 l0_6.length c0_6] 31 (0, 0)) (bk BK168)) : gb169 ≠ gb168)); replace BK168 := aZ_ (blk_below (g := gb168) (o := .cells #[.int .i64 a0_0, .bool a0_1, .int .i64 a0_2, .string a0_3, .string a0_4, .string a0_5, .slice A0_6 l0_6.length c0_6] 31 (0, 0)) (bk BK168) hb); clear hb hbox hg; have hnb19 := NB168_169.out; have hnc19 := NB169_168.out; obtain ⟨hcz20_0, hcz20_1, hcz20_2, hcz20_3, hcz20_4, hcz20_5, hcz20_6, hfz20_0, hfz20_1, hfz20_2, hfz20_3, hfz20_4, hfz20_5, hfz20_6⟩ := bc7 BK168; obtain ⟨hcz21_0, hcz21_1, hcz21_2, hcz21_3, hcz21_4, hcz21_5, hcz21_6, hfz21_0, hfz21_1, hfz21_2, hfz21_3, hfz21_4, hfz21_5, hfz21_6⟩ := bc7 BK169))
    go_ret
    exact ⟨by first | rfl | (simp [errW_none, errW_some] <;> rfl) | (simp [*, errW_none, errW_some] <;> rfl), bl2 HB GE168 GE169⟩
   ·
    rw [if_neg c16] at H
    have c16b0 : (a0_0 == 2) = false := beq_eq_false_iff_ne.mpr c16
    have c16b1 : (a0_0 != 2) = true := bne_iff_ne.mpr c16
    by_cases c22 : a0_0 = 3
    ·
     rw [if_pos c22] at H
     have c22b0 : (a0_0 == 3) = true := beq_iff_eq.mpr c22
     have c22b1 : (a0_0 != 3) = false := bne_eq_false_iff_eq.mpr c22
     clear c22
     obtain rfl := Option.some.inj H
     go_enter Try.func119, Try.ntmps119
     go_wp2_with (first | ((with_reducible refine gate_dst (N := 2) rfl ?_); (try (refine gate_guard (by rfl) ?_; dsimp only)); refine bxE 2 #[.int .i64 a0_0, .bool a0_1, .int .i64 a0_2, .string a0_3, .string a0_4, .string a0_5, .slice A0_6 l0_6.length c0_6] 31 ?_; intro gb168 hg w23 hbox hb; have BK168 := aZ_ (hbox); have GW168 := aZ_ ((by rw [hg]; exact (below_size (bl HB)) : w.heap.size ≤ gb168)); have GE168 := aZ_ ((by rw [hg]; exact (below_size (bl HB)) : w.heap.size ≤ gb168)); replace HB := aZ_ (below_step (bl HB) hb); clear hb hbox hg) | ((with_reducible refine gate_dst (N := 3) rfl ?_); (try (refine gate_guard (by rfl) ?_; dsimp only)); refine bxE 3 #[.int .i64 a1_0, .bool a1_1, .int .i64 a1_2, .string a1_3, .string a1_4, .string a1_5, .slice A1_6 l1_6.length c1_6] 31 ?_; intro gb169 hg w24 hbox hb; have BK169 := aZ_ (hbox); have GW169 := aZ_ ((by rw [hg]; exact (below_size (bl1 HB GE168)) : w.heap.size ≤ gb169)); have GE169 := aZ_ ((by rw [hg]; exact (below_size (bl1 HB GE168)) : w.heap.size ≤ gb169)); replace HB := aZ_ (below_step (bl1 HB GE168) hb); have NB168_169 := aZ_ ((by rw [hg]; exact Nat.ne_of_lt (blk_lt (g := gb168) (o := .cells #[.int .i64 a0_0, .bool a0_1, .int .i64 a0_2, .string a0_3, .string a0_4, .string a0_5, .slice A0_6 l0_6.length c0_6] 31 (0, 0)) (bk BK168)) : gb168 ≠ gb169)); have NB169_168 := aZ_ ((by rw [hg]; exact Nat.ne_of_gt (blk_lt (g := gb168) (o := .cells #[.int .i64 a0_0, .bool a0_1, .int .i64 a0_2, .string a0_3, .string a0_4, .string a0_5, .slice A0_6 l0_6.length c0_6] 31 (0, 0)) (bk BK168)) : gb169 ≠ gb168)); replace BK168 := aZ_ (blk_below (g := gb168) (o := .cells #[.int .i64 a0_0, .bool a0_1, .int .i64 a0_2, .string a0_3, .string a0_4, .string a0_5, .slice A0_6 l0_6.length c0_6] 31 (0, 0)) (bk BK168) hb); clear hb hbox hg; have hnb25 := NB168_169.out; have hnc25 := NB169_168.out; obtain ⟨hcz26_0, hcz26_1, hcz26_2, hcz26_3, hcz26_4, hcz26_5, hcz26_6, hfz26_0, hfz26_1, hfz26_2, hfz26_3, hfz26_4, hfz26_5, hfz26_6⟩ := bc7 BK168; obtain ⟨hcz27_0, hcz27_1, hcz27_2, hcz27_3, hcz27_4, hcz27_5, hcz27_6, hfz27_0, hfz27_1, hfz27_2, hfz27_3, hfz27_4, hfz27_5, hfz27_6⟩ := bc7 BK169))
     go_ret
     exact ⟨by first | rfl | (simp [errW_none, errW_some] <;> rfl) | (simp [*, errW_none, errW_some] <;> rfl), bl2 HB GE168 GE169⟩
    ·
     rw [if_neg c22] at H
     have c22b0 : (a0_0 == 3) = false := beq_eq_false_iff_ne.mpr c22
     have c22b1 : (a0_0 != 3) = true := bne_iff_ne.mpr c22
     by_cases c28 : a0_0 = 4
     ·
      rw [if_pos c28] at H
      have c28b0 : (a0_0 == 4) = true := beq_iff_eq.mpr c28
      have c28b1 : (a0_0 != 4) = false := bne_eq_false_iff_eq.mpr c28
      clear c28
      replace H := Option.bind_eq_some_iff.mp H
      obtain ⟨t170, A290, H⟩ := H
      replace H : (some t170) = some r := H
      have A29 := aZ_ A290
      clear A290
      obtain rfl := Option.some.inj H
      go_enter Try.func119, Try.ntmps119
      go_wp2_with (first | ((with_reducible refine gate_dst (N := 2) rfl ?_); (try (refine gate_guard (by rfl) ?_; dsimp only)); refine bxE 2 #[.int .i64 a0_0, .bool a0_1, .int .i64 a0_2, .string a0_3, .string a0_4, .string a0_5, .slice A0_6 l0_6.length c0_6] 31 ?_; intro gb168 hg w30 hbox hb; have BK168 := aZ_ (hbox); have GW168 := aZ_ ((by rw [hg]; exact (below_size (bl HB)) : w.heap.size ≤ gb168)); have GE168 := aZ_ ((by rw [hg]; exact (below_size (bl HB)) : w.heap.size ≤ gb168)); replace HB := aZ_ (below_step (bl HB) hb); clear hb hbox hg) | ((with_reducible refine gate_dst (N := 3) rfl ?_); (try (refine gate_guard (by rfl) ?_; dsimp only)); refine bxE 3 #[.int .i64 a1_0, .bool a1_1, .int .i64 a1_2, .string a1_3, .string a1_4, .string a1_5, .slice A1_6 l1_6.length c1_6] 31 ?_; intro gb169 hg w31 hbox hb; have BK169 := aZ_ (hbox); have GW169 := aZ_ ((by rw [hg]; exact (below_size (bl1 HB GE168)) : w.heap.size ≤ gb169)); have GE169 := aZ_ ((by rw [hg]; exact (below_size (bl1 HB GE168)) : w.heap.size ≤ gb169)); replace HB := aZ_ (below_step (bl1 HB GE168) hb); have NB168_169 := aZ_ ((by rw [hg]; exact Nat.ne_of_lt (blk_lt (g := gb168) (o := .cells #[.int .i64 a0_0, .bool a0_1, .int .i64 a0_2, .string a0_3, .string a0_4, .string a0_5, .slice A0_6 l0_6.length c0_6] 31 (0, 0)) (bk BK168)) : gb168 ≠ gb169)); have NB169_168 := aZ_ ((by rw [hg]; exact Nat.ne_of_gt (blk_lt (g := gb168) (o := .cells #[.int .i64 a0_0, .bool a0_1, .int .i64 a0_2, .string a0_3, .string a0_4, .string a0_5, .slice A0_6 l0_6.length c0_6] 31 (0, 0)) (bk BK168)) : gb169 ≠ gb168)); replace BK168 := aZ_ (blk_below (g := gb168) (o := .cells #[.int .i64 a0_0, .bool a0_1, .int .i64 a0_2, .string a0_3, .string a0_4, .string a0_5, .slice A0_6 l0_6.length c0_6] 31 (0, 0)) (bk BK168) hb); clear hb hbox hg; have hnb32 := NB168_169.out; have hnc32 := NB169_168.out; obtain ⟨hcz33_0, hcz33_1, hcz33_2, hcz33_3, hcz33_4, hcz33_5, hcz33_6, hfz33_0, hfz33_1, hfz33_2, hfz33_3, hfz33_4, hfz33_5, hfz33_6⟩ := bc7 BK168; obtain ⟨hcz34_0, hcz34_1, hcz34_2, hcz34_3, hcz34_4, hcz34_5, hcz34_6, hfz34_0, hfz34_1, hfz34_2, hfz34_3, hfz34_4, hfz34_5, hfz34_6⟩ := bc7 BK169) | ((with_reducible refine gate_callee (f := 31) rfl ?_); refine goesL_ (some 47) rfl rfl Try.func31 (by kernel_rfl) rfl #[.agg #[.string a0_4, .string a0_5], .agg #[.string a1_4, .string a1_5]] rfl gm_ ?_; (with_reducible refine (chancelref3_LessUid.calls a0_4 a0_5 a1_4 a1_5 t170 _ A29.out).mono ?_); rintro e w35 ⟨rfl, hb⟩; refine ⟨_, rfl, ?_⟩; replace BK168 := aZ_ (blk_below (g := gb168) (o := .cells #[.int .i64 a0_0, .bool a0_1, .int .i64 a0_2, .string a0_3, .string a0_4, .string a0_5, .slice A0_6 l0_6.length c0_6] 31 (0, 0)) (bk BK168) hb); replace BK169 := aZ_ (blk_below (g := gb169) (o := .cells #[.int .i64 a1_0, .bool a1_1, .int .i64 a1_2, .string a1_3, .string a1_4, .string a1_5, .slice A1_6 l1_6.length c1_6] 31 (0, 0)) (bk BK169) hb); replace HB := aZ_ (below_step (bl2 HB GE168 GE169) hb); (try clear hb); (try clear hb2); (try clear hk); (try clear hi)))
      go_ret
      exact ⟨by first | rfl | (simp [errW_none, errW_some] <;> rfl) | (simp [*, errW_none, errW_some] <;> rfl), bl2 HB GE168 GE169⟩
     ·
      rw [if_neg c28] at H
      have c28b0 : (a0_0 == 4) = false := beq_eq_false_iff_ne.mpr c28
      have c28b1 : (a0_0 != 4) = true := bne_iff_ne.mpr c28
      have H' := aZ_ H
      clear H
      go_enter Try.func119, Try.ntmps119
      go_wp2_with (first | ((with_reducible refine gate_dst (N := 2) rfl ?_); (try (refine gate_guard (by rfl) ?_; dsimp only)); refine bxE 2 #[.int .i64 a0_0, .bool a0_1, .int .i64 a0_2, .string a0_3, .string a0_4, .string a0_5, .slice A0_6 l0_6.length c0_6] 31 ?_; intro gb168 hg w36 hbox hb; have BK168 := aZ_ (hbox); have GW168 := aZ_ ((by rw [hg]; exact (below_size (bl HB)) : w.heap.size ≤ gb168)); have GE168 := aZ_ ((by rw [hg]; exact (below_size (bl HB)) : w.heap.size ≤ gb168)); replace HB := aZ_ (below_step (bl HB) hb); clear hb hbox hg) | ((with_reducible refine gate_dst (N := 3) rfl ?_); (try (refine gate_guard (by rfl) ?_; dsimp only)); refine bxE 3 #[.int .i64 a1_0, .bool a1_1, .int .i64 a1_2, .string a1_3, .string a1_4, .string a1_5, .slice A1_6 l1_6.length c1_6] 31 ?_; intro gb169 hg w37 hbox hb; have BK169 := aZ_ (hbox); have GW169 := aZ_ ((by rw [hg]; exact (below_size (bl1 HB GE168)) : w.heap.size ≤ gb169)); have GE169 := aZ_ ((by rw [hg]; exact (below_size (bl1 HB GE168)) : w.heap.size ≤ gb169)); replace HB := aZ_ (below_step (bl1 HB GE168) hb); have NB168_169 := aZ_ ((by rw [hg]; exact Nat.ne_of_lt (blk_lt (g := gb168) (o := .cells #[.int .i64 a0_0, .bool a0_1, .int .i64 a0_2, .string a0_3, .string a0_4, .string a0_5, .slice A0_6 l0_6.length c0_6] 31 (0, 0)) (bk BK168)) : gb168 ≠ gb169)); have NB169_168 := aZ_ ((by rw [hg]; exact Nat.ne_of_gt (blk_lt (g := gb168) (o := .cells #[.int .i64 a0_0, .bool a0_1, .int .i64 a0_2, .string a0_3, .string a0_4, .string a0_5, .slice A0_6 l0_6.length c0_6] 31 (0, 0)) (bk BK168)) : gb169 ≠ gb168)); replace BK168 := aZ_ (blk_below (g := gb168) (o := .cells #[.int .i64 a0_0, .bool a0_1, .int .i64 a0_2, .string a0_3, .string a0_4, .string a0_5, .slice A0_6 l0_6.length c0_6] 31 (0, 0)) (bk BK168) hb); clear hb hbox hg; have hnb38 := NB168_169.out; have hnc38 := NB169_168.out; obtain ⟨hcz39_0, hcz39_1, hcz39_2, hcz39_3, hcz39_4, hcz39_5, hcz39_6, hfz39_0, hfz39_1, hfz39_2, hfz39_3, hfz39_4, hfz39_5, hfz39_6⟩ := bc7 BK168; obtain ⟨hcz40_0, hcz40_1, hcz40_2, hcz40_3, hcz40_4, hcz40_5, hcz40_6, hfz40_0, hfz40_1, hfz40_2, hfz40_3, hfz40_4, hfz40_5, hfz40_6⟩ := bc7 BK169))
      go_loopg [5] k (fun kq v5 w' => ∃ (x5_1 : Int), v5 = .int .i64 x5_1 ∧ Aside0 (chancelref3_Less.l0 kq x5_1 a0_0 a0_1 a0_2 a0_3 a0_4 a0_5 l0_6 a1_0 a1_1 a1_2 a1_3 a1_4 a1_5 l1_6 = some r) ∧ Aside0 (kq ≤ k) ∧ Aside0 (w'.heap[gb168]? = some (.cells #[.int .i64 a0_0, .bool a0_1, .int .i64 a0_2, .string a0_3, .string a0_4, .string a0_5, (.slice A0_6 l0_6.length c0_6)] 31 (0, 0))) ∧ Aside0 (w'.heap[gb169]? = some (.cells #[.int .i64 a1_0, .bool a1_1, .int .i64 a1_2, .string a1_3, .string a1_4, .string a1_5, (.slice A1_6 l1_6.length c1_6)] 31 (0, 0))) ∧ Aside0 (Below w.heap.size w w'))
      case atStart => exact ⟨(0), rf_, H', ⟨Nat.le_refl _⟩, ⟨bk BK168⟩, ⟨bk BK169⟩, ⟨bl2 HB GE168 GE169⟩⟩
      case round =>
       clear H'
       try clear c1
       try clear c2
       try clear p2
       try clear c3
       try clear c3b0
       try clear c3b1
       try clear c4
       try clear c4b0
       try clear c4b1
       try clear c5
       try clear c8
       try clear c11
       try clear c13
       try clear c16
       try clear c16b0
       try clear c16b1
       try clear c19
       try clear c22
       try clear c22b0
       try clear c22b1
       try clear c25
       try clear c28
       try clear c28b0
       try clear c28b1
       try clear c31
       try clear c32
       try clear c38
       try clear hcz10_0
       try clear hcz10_1
       try clear hcz10_2
       try clear hcz10_3
       try clear hcz10_4
       try clear hcz10_5
       try clear hcz10_6
       try clear hcz14_0
       try clear hcz14_1
       try clear hcz14_2
       try clear hcz14_3
       try clear hcz14_4
       try clear hcz14_5
       try clear hcz14_6
       try clear hcz15_0
       try clear hcz15_1
       try clear hcz15_2
       try clear hcz15_3
       try clear hcz15_4
       try clear hcz15_5
       try clear hcz15_6
       try clear hcz20_0
       try clear hcz20_1
       try clear hcz20_2
       try clear hcz20_3
       try clear hcz20_4
       try clear hcz20_5
       try clear hcz20_6
       try clear hcz21_0
       try clear hcz21_1
       try clear hcz21_2
       try clear hcz21_3
       try clear hcz21_4
       try clear hcz21_5
       try clear hcz21_6
       try clear hcz26_0
       try clear hcz26_1
       try clear hcz26_2
       try clear hcz26_3
       try clear hcz26_4
       try clear hcz26_5
       try clear hcz26_6
       try clear hcz27_0
       try clear hcz27_1
       try clear hcz27_2
       try clear hcz27_3
       try clear hcz27_4
       try clear hcz27_5
       try clear hcz27_6
       try clear hcz33_0
       try clear hcz33_1
       try clear hcz33_2
       try clear hcz33_3
       try clear hcz33_4
       try clear hcz33_5
       try clear hcz33_6
       try clear hcz34_0
       try clear hcz34_1
       try clear hcz34_2
       try clear hcz34_3
       try clear hcz34_4
       try clear hcz34_5
       try clear hcz34_6
       try clear hcz39_0
       try clear hcz39_1
       try clear hcz39_2
       try clear hcz39_3
       try clear hcz39_4
       try clear hcz39_5
       try clear hcz39_6
       try clear hcz40_0
       try clear hcz40_1
       try clear hcz40_2
       try clear hcz40_3
       try clear hcz40_4
       try clear hcz40_5
       try clear hcz40_6
       try clear hcz9_0
       try clear hcz9_1
       try clear hcz9_2
       try clear hcz9_3
       try clear hcz9_4
       try clear hcz9_5
       try clear hcz9_6
       try clear hfz10_0
       try clear hfz10_1
       try clear hfz10_2
       try clear hfz10_3
       try clear hfz10_4
       try clear hfz10_5
       try clear hfz10_6
       try clear hfz14_0
       try clear hfz14_1
       try clear hfz14_2
       try clear hfz14_3
       try clear hfz14_4
       try clear hfz14_5
       try clear hfz14_6
       try clear hfz15_0
       try clear hfz15_1
       try clear hfz15_2
       try clear hfz15_3
       try clear hfz15_4
       try clear hfz15_5
       try clear hfz15_6
       try clear hfz20_0
       try clear hfz20_1
       try clear hfz20_2
       try clear hfz20_3
       try clear hfz20_4
       try clear hfz20_5
       try clear hfz20_6
       try clear hfz21_0
       try clear hfz21_1
       try clear hfz21_2
       try clear hfz21_3
       try clear hfz21_4
       try clear hfz21_5
       try clear hfz21_6
       try clear hfz26_0
       try clear hfz26_1
       try clear hfz26_2
       try clear hfz26_3
       try clear hfz26_4
       try clear hfz26_5
       try clear hfz26_6
       try clear hfz27_0
       try clear hfz27_1
       try clear hfz27_2
       try clear hfz27_3
       try clear hfz27_4
       try clear hfz27_5
       try clear hfz27_6
       try clear hfz33_0
       try clear hfz33_1
       try clear hfz33_2
       try clear hfz33_3
       try clear hfz33_4
       try clear hfz33_5
       try clear hfz33_6
       try clear hfz34_0
       try clear hfz34_1
       try clear hfz34_2
       try clear hfz34_3
       try clear hfz34_4
       try clear hfz34_5
       try clear hfz34_6
       try clear hfz39_0
       try clear hfz39_1
       try clear hfz39_2
       try clear hfz39_3
       try clear hfz39_4
       try clear hfz39_5
       try clear hfz39_6
       try clear hfz40_0
       try clear hfz40_1
       try clear hfz40_2
       try clear hfz40_3
       try clear hfz40_4
       try clear hfz40_5
       try clear hfz40_6
       try clear hfz9_0
       try clear hfz9_1
       try clear hfz9_2
       try clear hfz9_3
       try clear hfz9_4
       try clear hfz9_5
       try clear hfz9_6
       obtain ⟨x5_1, rfl, HA, HK1, BK168, BK169, HB⟩ := hrel
       cases gk with
       | zero => exact absurd HA.out (by simp [chancelref3_Less.l0])
       | succ k1 =>
        have H := HA.out
        clear HA
        simp only [chancelref3_Less.l0] at H
        have HC41 := aZ_ H
        clear H
        go_upto_region 13 with (fail)
        go_cut [59] (fun v59 wc => ∃ (kq : Nat) (x59_40 : Bool), v59 = .bool x59_40 ∧ Aside0 (chancelref3_Less.j1 kq x5_1 x59_40 a0_0 a0_1 a0_2 a0_3 a0_4 a0_5 l0_6 a1_0 a1_1 a1_2 a1_3 a1_4 a1_5 l1_6 = some r) ∧ Aside0 (kq ≤ k1) ∧ Aside0 (wc.heap[gb168]? = some (.cells #[.int .i64 a0_0, .bool a0_1, .int .i64 a0_2, .string a0_3, .string a0_4, .string a0_5, (.slice A0_6 l0_6.length c0_6)] 31 (0, 0))) ∧ Aside0 (wc.heap[gb169]? = some (.cells #[.int .i64 a1_0, .bool a1_1, .int .i64 a1_2, .string a1_3, .string a1_4, .string a1_5, (.slice A1_6 l1_6.length c1_6)] 31 (0, 0))) ∧ Aside0 (Below w.heap.size w wc))
        case first =>
         have H := HC41.out
         clear HC41
         by_cases c42 : x5_1 < (l0_6.length : Int)
         ·
          rw [if_pos c42] at H
          have c42b0 : decide (x5_1 < (l0_6.length : Int)) = true := decide_eq_true c42
          clear c42
          (first | rw [c42b0] | (simp only [i64_w, i32_w]; rw [c42b0]) | skip)
          have H' := aZ_ H
          clear H
          have hnb43 := NB168_169.out
          have hnc43 := NB169_168.out
          obtain ⟨hcz44_0, hcz44_1, hcz44_2, hcz44_3, hcz44_4, hcz44_5, hcz44_6, hfz44_0, hfz44_1, hfz44_2, hfz44_3, hfz44_4, hfz44_5, hfz44_6⟩ := bc7 BK168
          obtain ⟨hcz45_0, hcz45_1, hcz45_2, hcz45_3, hcz45_4, hcz45_5, hcz45_6, hfz45_0, hfz45_1, hfz45_2, hfz45_3, hfz45_4, hfz45_5, hfz45_6⟩ := bc7 BK169
          go_wp2
          go_meet
          case rel => exact ⟨_, (decide (x5_1 < (l1_6.length : Int))), rf_, H', ⟨by have := HK1.out; first | omega | exact Nat.le_refl _⟩, ⟨bk BK168⟩, ⟨bk BK169⟩, ⟨bl2 HB GE168 GE169⟩⟩
         ·
          rw [if_neg c42] at H
          have c42b0 : decide (x5_1 < (l0_6.length : Int)) = false := decide_eq_false c42
          clear c42
          (first | rw [c42b0] | (simp only [i64_w, i32_w]; rw [c42b0]) | skip)
          have H' := aZ_ H
          clear H
          have hnb46 := NB168_169.out
          have hnc46 := NB169_168.out
          obtain ⟨hcz47_0, hcz47_1, hcz47_2, hcz47_3, hcz47_4, hcz47_5, hcz47_6, hfz47_0, hfz47_1, hfz47_2, hfz47_3, hfz47_4, hfz47_5, hfz47_6⟩ := bc7 BK168
          go_wp2
          go_meet
          case rel => exact ⟨_, (false), rf_, H', ⟨by have := HK1.out; first | omega | exact Nat.le_refl _⟩, ⟨bk BK168⟩, ⟨bk BK169⟩, ⟨bl2 HB GE168 GE169⟩⟩
        case rest =>
         clear HC41
         try clear c1
         try clear c2
         try clear p2
         try clear c3
         try clear c3b0
         try clear c3b1
         try clear c4
         try clear c4b0
         try clear c4b1
         try clear c5
         try clear c8
         try clear c11
         try clear c13
         try clear c16
         try clear c16b0
         try clear c16b1
         try clear c19
         try clear c22
         try clear c22b0
         try clear c22b1
         try clear c25
         try clear c28
         try clear c28b0
         try clear c28b1
         try clear c31
         try clear c32
         try clear c38
         try clear c42
         try clear c42b0
         try clear c43
         try clear c46
         try clear hcz10_0
         try clear hcz10_1
         try clear hcz10_2
         try clear hcz10_3
         try clear hcz10_4
         try clear hcz10_5
         try clear hcz10_6
         try clear hcz14_0
         try clear hcz14_1
         try clear hcz14_2
         try clear hcz14_3
         try clear hcz14_4
         try clear hcz14_5
         try clear hcz14_6
         try clear hcz15_0
         try clear hcz15_1
         try clear hcz15_2
         try clear hcz15_3
         try clear hcz15_4
         try clear hcz15_5
         try clear hcz15_6
         try clear hcz20_0
         try clear hcz20_1
         try clear hcz20_2
         try clear hcz20_3
         try clear hcz20_4
         try clear hcz20_5
         try clear hcz20_6
         try clear hcz21_0
         try clear hcz21_1
         try clear hcz21_2
         try clear hcz21_3
         try clear hcz21_4
         try clear hcz21_5
         try clear hcz21_6
         try clear hcz26_0
         try clear hcz26_1
         try clear hcz26_2
         try clear hcz26_3
         try clear hcz26_4
         try clear hcz26_5
         try clear hcz26_6
         try clear hcz27_0
         try clear hcz27_1
         try clear hcz27_2
         try clear hcz27_3
         try clear hcz27_4
         try clear hcz27_5
         try clear hcz27_6
         try clear hcz33_0
         try clear hcz33_1
         try clear hcz33_2
         try clear hcz33_3
         try clear hcz33_4
         try clear hcz33_5
         try clear hcz33_6
         try clear hcz34_0
         try clear hcz34_1
         try clear hcz34_2
         try clear hcz34_3
         try clear hcz34_4
         try clear hcz34_5
         try clear hcz34_6
         try clear hcz39_0
         try clear hcz39_1
         try clear hcz39_2
         try clear hcz39_3
         try clear hcz39_4
         try clear hcz39_5
         try clear hcz39_6
         try clear hcz40_0
         try clear hcz40_1
         try clear hcz40_2
         try clear hcz40_3
         try clear hcz40_4
         try clear hcz40_5
         try clear hcz40_6
         try clear hcz44_0
         try clear hcz44_1
         try clear hcz44_2
         try clear hcz44_3
         try clear hcz44_4
         try clear hcz44_5
         try clear hcz44_6
         try clear hcz45_0
         try clear hcz45_1
         try clear hcz45_2
         try clear hcz45_3
         try clear hcz45_4
         try clear hcz45_5
         try clear hcz45_6
         try clear hcz47_0
         try clear hcz47_1
         try clear hcz47_2
         try clear hcz47_3
         try clear hcz47_4
         try clear hcz47_5
         try clear hcz47_6
         try clear hcz9_0
         try clear hcz9_1
         try clear hcz9_2
         try clear hcz9_3
         try clear hcz9_4
         try clear hcz9_5
         try clear hcz9_6
         try clear hfz10_0
         try clear hfz10_1
         try clear hfz10_2
         try clear hfz10_3
         try clear hfz10_4
         try clear hfz10_5
         try clear hfz10_6
         try clear hfz14_0
         try clear hfz14_1
         try clear hfz14_2
         try clear hfz14_3
         try clear hfz14_4
         try clear hfz14_5
         try clear hfz14_6
         try clear hfz15_0
         try clear hfz15_1
         try clear hfz15_2
         try clear hfz15_3
         try clear hfz15_4
         try clear hfz15_5
         try clear hfz15_6
         try clear hfz20_0
         try clear hfz20_1
         try clear hfz20_2
         try clear hfz20_3
         try clear hfz20_4
         try clear hfz20_5
         try clear hfz20_6
         try clear hfz21_0
         try clear hfz21_1
         try clear hfz21_2
         try clear hfz21_3
         try clear hfz21_4
         try clear hfz21_5
         try clear hfz21_6
         try clear hfz26_0
         try clear hfz26_1
         try clear hfz26_2
         try clear hfz26_3
         try clear hfz26_4
         try clear hfz26_5
         try clear hfz26_6
         try clear hfz27_0
         try clear hfz27_1
         try clear hfz27_2
         try clear hfz27_3
         try clear hfz27_4
         try clear hfz27_5
         try clear hfz27_6
         try clear hfz33_0
         try clear hfz33_1
         try clear hfz33_2
         try clear hfz33_3
         try clear hfz33_4
         try clear hfz33_5
         try clear hfz33_6
         try clear hfz34_0
         try clear hfz34_1
         try clear hfz34_2
         try clear hfz34_3
         try clear hfz34_4
         try clear hfz34_5
         try clear hfz34_6
         try clear hfz39_0
         try clear hfz39_1
         try clear hfz39_2
         try clear hfz39_3
         try clear hfz39_4
         try clear hfz39_5
         try clear hfz39_6
         try clear hfz40_0
         try clear hfz40_1
         try clear hfz40_2
         try clear hfz40_3
         try clear hfz40_4
         try clear hfz40_5
         try clear hfz40_6
         try clear hfz44_0
         try clear hfz44_1
         try clear hfz44_2
         try clear hfz44_3
         try clear hfz44_4
         try clear hfz44_5
         try clear hfz44_6
         try clear hfz45_0
         try clear hfz45_1
         try clear hfz45_2
         try clear hfz45_3
         try clear hfz45_4
         try clear hfz45_5
         try clear hfz45_6
         try clear hfz47_0
         try clear hfz47_1
         try clear hfz47_2
         try clear hfz47_3
         try clear hfz47_4
         try clear hfz47_5
         try clear hfz47_6
         try clear hfz9_0
         try clear hfz9_1
         try clear hfz9_2
         try clear hfz9_3
         try clear hfz9_4
         try clear hfz9_5
         try clear hfz9_6
         try clear p2
         obtain ⟨kq, x59_40, rfl, HA, HJ40, BK168, BK169, HB⟩ := hcut
         cases kq with
         | zero => exact absurd HA.out (by simp [chancelref3_Less.j1])
         | succ kj40 =>
          have H := HA.out
          clear HA
          simp only [chancelref3_Less.j1] at H
          by_cases c48 : x59_40 = true
          ·
           subst c48
           have H1 : (if 0 ≤ x5_1 then (if x5_1 < (l0_6.length : Int) then (if x5_1 < (l1_6.length : Int) then ((chancelref3_Less.f kj40 ((rd_T31 l0_6 x5_1).f0) ((rd_T31 l0_6 x5_1).f1) ((rd_T31 l0_6 x5_1).f2) ((rd_T31 l0_6 x5_1).f3) ((rd_T31 l0_6 x5_1).f4.f0) ((rd_T31 l0_6 x5_1).f4.f1) ((rd_T31 l0_6 x5_1).f5) ((rd_T31 l1_6 x5_1).f0) ((rd_T31 l1_6 x5_1).f1) ((rd_T31 l1_6 x5_1).f2) ((rd_T31 l1_6 x5_1).f3) ((rd_T31 l1_6 x5_1).f4.f0) ((rd_T31 l1_6 x5_1).f4.f1) ((rd_T31 l1_6 x5_1).f5)).bind fun t173 => (if t173 = true then (some true) else ((chancelref3_Less.f kj40 ((rd_T31 l1_6 x5_1).f0) ((rd_T31 l1_6 x5_1).f1) ((rd_T31 l1_6 x5_1).f2) ((rd_T31 l1_6 x5_1).f3) ((rd_T31 l1_6 x5_1).f4.f0) ((rd_T31 l1_6 x5_1).f4.f1) ((rd_T31 l1_6 x5_1).f5) ((rd_T31 l0_6 x5_1).f0) ((rd_T31 l0_6 x5_1).f1) ((rd_T31 l0_6 x5_1).f2) ((rd_T31 l0_6 x5_1).f3) ((rd_T31 l0_6 x5_1).f4.f0) ((rd_T31 l0_6 x5_1).f4.f1) ((rd_T31 l0_6 x5_1).f5)).bind fun t176 => (if t176 = true then (some false) else (chancelref3_Less.l0 kj40 (wrap64 (x5_1 + 1)) a0_0 a0_1 a0_2 a0_3 a0_4 a0_5 l0_6 a1_0 a1_1 a1_2 a1_3 a1_4 a1_5 l1_6))))) else (none)) else (none)) else (none)) = some r := by rw [if_pos rfl] at H; exact H
           clear H
           have H := H1
           clear H1
           by_cases c49 : 0 ≤ x5_1
           ·
            rw [if_pos c49] at H
            have c49b0 : decide (0 ≤ x5_1) = true := decide_eq_true c49
            clear c49
            by_cases c50 : x5_1 < (l0_6.length : Int)
            ·
             rw [if_pos c50] at H
             have c50b0 : decide (x5_1 < (l0_6.length : Int)) = true := decide_eq_true c50
             clear c50
             by_cases c51 : x5_1 < (l1_6.length : Int)
             ·
              rw [if_pos c51] at H
              have c51b0 : decide (x5_1 < (l1_6.length : Int)) = true := decide_eq_true c51
              clear c51
              replace H := Option.bind_eq_some_iff.mp H
              obtain ⟨t173, A520, H⟩ := H
              replace H : (if t173 = true then (some true) else ((chancelref3_Less.f kj40 ((rd_T31 l1_6 x5_1).f0) ((rd_T31 l1_6 x5_1).f1) ((rd_T31 l1_6 x5_1).f2) ((rd_T31 l1_6 x5_1).f3) ((rd_T31 l1_6 x5_1).f4.f0) ((rd_T31 l1_6 x5_1).f4.f1) ((rd_T31 l1_6 x5_1).f5) ((rd_T31 l0_6 x5_1).f0) ((rd_T31 l0_6 x5_1).f1) ((rd_T31 l0_6 x5_1).f2) ((rd_T31 l0_6 x5_1).f3) ((rd_T31 l0_6 x5_1).f4.f0) ((rd_T31 l0_6 x5_1).f4.f1) ((rd_T31 l0_6 x5_1).f5)).bind fun t176 => (if t176 = true then (some false) else (chancelref3_Less.l0 kj40 (wrap64 (x5_1 + 1)) a0_0 a0_1 a0_2 a0_3 a0_4 a0_5 l0_6 a1_0 a1_1 a1_2 a1_3 a1_4 a1_5 l1_6)))) = some r := H
              have A52 := aZ_ A520
              clear A520
              by_cases c53 : t173 = true
              ·
               subst c53
               have H1 : (some true) = some r := by rw [if_pos rfl] at H; exact H
               clear H
               have H := H1
               clear H1
               obtain rfl := Option.some.inj H
               try go_wp2
               replace BK168 := aZ_ (blk_drew BK168.out)
               replace BK169 := aZ_ (blk_drew BK169.out)
               replace HB := aZ_ (below_drew1 HB.out)
               have p171 : 0 ≤ (x5_1 : Int) := of_decide_eq_true asm_
               have q171 : x5_1 < (l0_6.length : Int) := of_decide_eq_true asm_
               obtain ⟨ad171, A171_6, c171_6, e171, hx171_0, hx171_1, hx171_2, hx171_3, hx171_4, hx171_5, hx171_6, hl171_6, hi171_6⟩ := at_T31 HR0_6.out x5_1 p171 q171
               have hw171_6 := hx171_6
               have hw171_5 := hx171_5
               have hw171_4 := hx171_4
               have hw171_3 := hx171_3
               have hw171_2 := hx171_2
               have hw171_1 := hx171_1
               have hw171_0 := hx171_0
               cases e171
               replace hx171_0 := (hbc HB.out hx171_0 :)
               replace hx171_1 := (hbc HB.out hx171_1 :)
               replace hx171_2 := (hbc HB.out hx171_2 :)
               replace hx171_3 := (hbc HB.out hx171_3 :)
               replace hx171_4 := (hbc HB.out hx171_4 :)
               replace hx171_5 := (hbc HB.out hx171_5 :)
               replace hx171_6 := (hbc HB.out hx171_6 :)
               have HR171_6 := aZ_ hi171_6
               have HC171_6 := aZ_ hl171_6
               clear hi171_6 hl171_6
               replace p171 := eq_true p171
               replace q171 := eq_true q171
               have p172 : 0 ≤ (x5_1 : Int) := of_decide_eq_true asm_
               have q172 : x5_1 < (l1_6.length : Int) := of_decide_eq_true asm_
               obtain ⟨ad172, A172_6, c172_6, e172, hx172_0, hx172_1, hx172_2, hx172_3, hx172_4, hx172_5, hx172_6, hl172_6, hi172_6⟩ := at_T31 HR1_6.out x5_1 p172 q172
               have hw172_6 := hx172_6
               have hw172_5 := hx172_5
               have hw172_4 := hx172_4
               have hw172_3 := hx172_3
               have hw172_2 := hx172_2
               have hw172_1 := hx172_1
               have hw172_0 := hx172_0
               cases e172
               replace hx172_0 := (hbc HB.out hx172_0 :)
               replace hx172_1 := (hbc HB.out hx172_1 :)
               replace hx172_2 := (hbc HB.out hx172_2 :)
               replace hx172_3 := (hbc HB.out hx172_3 :)
               replace hx172_4 := (hbc HB.out hx172_4 :)
               replace hx172_5 := (hbc HB.out hx172_5 :)
               replace hx172_6 := (hbc HB.out hx172_6 :)
               have HR172_6 := aZ_ hi172_6
               have HC172_6 := aZ_ hl172_6
               clear hi172_6 hl172_6
               replace p172 := eq_true p172
               replace q172 := eq_true q172
               refine start_ (n := 11) (S := fun w' => w'.cell? ⟨gb168, 0, none⟩ = some (.int .i64 a0_0) ∧ w'.cell? ⟨gb168, 1, none⟩ = some (.bool a0_1) ∧ w'.cell? ⟨gb168, 2, none⟩ = some (.int .i64 a0_2) ∧ w'.cell? ⟨gb168, 3, none⟩ = some (.string a0_3) ∧ w'.cell? ⟨gb168, 4, none⟩ = some (.string a0_4) ∧ w'.cell? ⟨gb168, 5, none⟩ = some (.string a0_5) ∧ w'.cell? ⟨gb168, 6, none⟩ = some (.slice (some ad171) l0_6.length c0_6) ∧ w'.cell? ⟨gb169, 0, none⟩ = some (.int .i64 a1_0) ∧ w'.cell? ⟨gb169, 1, none⟩ = some (.bool a1_1) ∧ w'.cell? ⟨gb169, 2, none⟩ = some (.int .i64 a1_2) ∧ w'.cell? ⟨gb169, 3, none⟩ = some (.string a1_3) ∧ w'.cell? ⟨gb169, 4, none⟩ = some (.string a1_4) ∧ w'.cell? ⟨gb169, 5, none⟩ = some (.string a1_5) ∧ w'.cell? ⟨gb169, 6, none⟩ = some (.slice (some ad172) l1_6.length c1_6) ∧ w'.cell? (ad171.add ((x5_1).toNat * 7)) = some (.int .i64 ((rd_T31 l0_6 x5_1).f0)) ∧ w'.cell? ⟨(ad171.add ((x5_1).toNat * 7)).block, (ad171.add ((x5_1).toNat * 7)).off + 1, none⟩ = some (.bool ((rd_T31 l0_6 x5_1).f1)) ∧ w'.cell? ⟨(ad171.add ((x5_1).toNat * 7)).block, (ad171.add ((x5_1).toNat * 7)).off + 2, none⟩ = some (.int .i64 ((rd_T31 l0_6 x5_1).f2)) ∧ w'.cell? ⟨(ad171.add ((x5_1).toNat * 7)).block, (ad171.add ((x5_1).toNat * 7)).off + 3, none⟩ = some (.string ((rd_T31 l0_6 x5_1).f3)) ∧ w'.cell? ⟨(ad171.add ((x5_1).toNat * 7)).block, (ad171.add ((x5_1).toNat * 7)).off + 4, none⟩ = some (.string ((rd_T31 l0_6 x5_1).f4.f0)) ∧ w'.cell? ⟨(ad171.add ((x5_1).toNat * 7)).block, (ad171.add ((x5_1).toNat * 7)).off + 5, none⟩ = some (.string ((rd_T31 l0_6 x5_1).f4.f1)) ∧ w'.cell? ⟨(ad171.add ((x5_1).toNat * 7)).block, (ad171.add ((x5_1).toNat * 7)).off + 6, none⟩ = some (.slice A171_6 ((rd_T31 l0_6 x5_1).f5).length c171_6) ∧ w'.cell? (ad172.add ((x5_1).toNat * 7)) = some (.int .i64 ((rd_T31 l1_6 x5_1).f0)) ∧ w'.cell? ⟨(ad172.add ((x5_1).toNat * 7)).block, (ad172.add ((x5_1).toNat * 7)).off + 1, none⟩ = some (.bool ((rd_T31 l1_6 x5_1).f1)) ∧ w'.cell? ⟨(ad172.add ((x5_1).toNat * 7)).block, (ad172.add ((x5_1).toNat * 7)).off + 2, none⟩ = some (.int .i64 ((rd_T31 l1_6 x5_1).f2)) ∧ w'.cell? ⟨(ad172.add ((x5_1).toNat * 7)).block, (ad172.add ((x5_1).toNat * 7)).off + 3, none⟩ = some (.string ((rd_T31 l1_6 x5_1).f3)) ∧ w'.cell? ⟨(ad172.add ((x5_1).toNat * 7)).block, (ad172.add ((x5_1).toNat * 7)).off + 4, none⟩ = some (.string ((rd_T31 l1_6 x5_1).f4.f0)) ∧ w'.cell? ⟨(ad172.add ((x5_1).toNat * 7)).block, (ad172.add ((x5_1).toNat * 7)).off + 5, none⟩ = some (.string ((rd_T31 l1_6 x5_1).f4.f1)) ∧ w'.cell? ⟨(ad172.add ((x5_1).toNat * 7)).block, (ad172.add ((x5_1).toNat * 7)).off + 6, none⟩ = some (.slice A172_6 ((rd_T31 l1_6 x5_1).f5).length c172_6)) (ds := []) #[false, false, false, false, false, false, false, false, false, false, false] (by kernel_rfl) rfl rfl ⟨(blk_cell BK168.out 0).trans rfl, (blk_cell BK168.out 1).trans rfl, (blk_cell BK168.out 2).trans rfl, (blk_cell BK168.out 3).trans rfl, (blk_cell BK168.out 4).trans rfl, (blk_cell BK168.out 5).trans rfl, (blk_cell BK168.out 6).trans rfl, (blk_cell BK169.out 0).trans rfl, (blk_cell BK169.out 1).trans rfl, (blk_cell BK169.out 2).trans rfl, (blk_cell BK169.out 3).trans rfl, (blk_cell BK169.out 4).trans rfl, (blk_cell BK169.out 5).trans rfl, (blk_cell BK169.out 6).trans rfl, ((hbc HB.out hw171_0 :)), ((hbc HB.out hw171_1 :)), ((hbc HB.out hw171_2 :)), ((hbc HB.out hw171_3 :)), ((hbc HB.out hw171_4 :)), ((hbc HB.out hw171_5 :)), ((hbc HB.out hw171_6 :)), ((hbc HB.out hw172_0 :)), ((hbc HB.out hw172_1 :)), ((hbc HB.out hw172_2 :)), ((hbc HB.out hw172_3 :)), ((hbc HB.out hw172_4 :)), ((hbc HB.out hw172_5 :)), ((hbc HB.out hw172_6 :))⟩ (fun hHeld => ?_); refine with_tabW chancelref3_Less.tab15 chancelref3_Less.bits15 (fun HT_ HW_ => ?_)
               generalize wc.drew = w54 at BK168 BK169 HB HR171_6 HR172_6 hx171_0 hx171_1 hx171_2 hx171_3 hx171_4 hx171_5 hx171_6 hx172_0 hx172_1 hx172_2 hx172_3 hx172_4 hx172_5 hx172_6 hHeld ⊢
               refine pS_ 0 62 (fa 11 1) HT_ ?_
               refine pS_ 2 64 (fa 11 5) HT_ ?_
               refine pS_ 5 67 (fa 11 37) HT_ ?_
               refine pS_ 7 69 (fa 11 165) HT_ ?_
               refine tS_ 1 63 (fa 11 167) HT_ HW_ hHeld ?_
               refine pS_ 3 65 (fa 11 175) HT_ ?_
               refine tS_ 4 66 (fa 11 191) HT_ HW_ hHeld ?_
               refine tS_ 6 68 (fa 11 255) HT_ HW_ hHeld ?_
               refine pS_ 8 70 (fa 11 511) HT_ ?_
               refine tS_ 9 71 (fa 11 1023) HT_ HW_ hHeld ?_
               refine one_ (i := 10) (N := some 72) #[true, true, true, true, true, true, true, true, true, true, true] rfl rfl (one_of HT_.out (by kernel_rfl)) (by decide) (fun K hK => ?_)
               refine goes_ Try.func119 (by kernel_rfl) rfl #[.agg #[.int .i64 ((rd_T31 l0_6 x5_1).f0), .bool ((rd_T31 l0_6 x5_1).f1), .int .i64 ((rd_T31 l0_6 x5_1).f2), .string ((rd_T31 l0_6 x5_1).f3), .string ((rd_T31 l0_6 x5_1).f4.f0), .string ((rd_T31 l0_6 x5_1).f4.f1), .slice A171_6 ((rd_T31 l0_6 x5_1).f5).length c171_6], .agg #[.int .i64 ((rd_T31 l1_6 x5_1).f0), .bool ((rd_T31 l1_6 x5_1).f1), .int .i64 ((rd_T31 l1_6 x5_1).f2), .string ((rd_T31 l1_6 x5_1).f3), .string ((rd_T31 l1_6 x5_1).f4.f0), .string ((rd_T31 l1_6 x5_1).f4.f1), .slice A172_6 ((rd_T31 l1_6 x5_1).f5).length c172_6]] (by rfl) rfl rfl gm_ ?_
               with_reducible refine (ih kj40 (by have := HK1.out; have := HJ40.out; omega) ((rd_T31 l0_6 x5_1).f0) ((rd_T31 l0_6 x5_1).f1) ((rd_T31 l0_6 x5_1).f2) ((rd_T31 l0_6 x5_1).f3) ((rd_T31 l0_6 x5_1).f4.f0) ((rd_T31 l0_6 x5_1).f4.f1) _ _ ((rd_T31 l0_6 x5_1).f5) ((rd_T31 l1_6 x5_1).f0) ((rd_T31 l1_6 x5_1).f1) ((rd_T31 l1_6 x5_1).f2) ((rd_T31 l1_6 x5_1).f3) ((rd_T31 l1_6 x5_1).f4.f0) ((rd_T31 l1_6 x5_1).f4.f1) _ _ ((rd_T31 l1_6 x5_1).f5) true _ ?side1 ?side2 ?side3 ?side4 A52.out).mono ?_
               (case side1 => exact kC (Kd.C_below HR171_6.out HB.out))
               (case side2 => exact HC171_6.out)
               (case side3 => exact kC (Kd.C_below HR172_6.out HB.out))
               (case side4 => exact HC172_6.out)
               rintro e w55 ⟨rfl, hb⟩
               refine ⟨_, rfl, ?_⟩
               replace BK168 := aZ_ (blk_below (g := gb168) (o := .cells #[.int .i64 a0_0, .bool a0_1, .int .i64 a0_2, .string a0_3, .string a0_4, .string a0_5, .slice (some ad171) l0_6.length c0_6] 31 (0, 0)) (bk BK168) hb)
               replace BK169 := aZ_ (blk_below (g := gb169) (o := .cells #[.int .i64 a1_0, .bool a1_1, .int .i64 a1_2, .string a1_3, .string a1_4, .string a1_5, .slice (some ad172) l1_6.length c1_6] 31 (0, 0)) (bk BK169) hb)
               replace HB := aZ_ (below_step (bl2 HB GE168 GE169) hb)
               (try clear hb)
               (try clear hb2)
               (try clear hk)
               (try clear hi)
               refine hK.out _ _ ⟨(blk_cell BK168.out 0).trans rfl, (blk_cell BK168.out 1).trans rfl, (blk_cell BK168.out 2).trans rfl, (blk_cell BK168.out 3).trans rfl, (blk_cell BK168.out 4).trans rfl, (blk_cell BK168.out 5).trans rfl, (blk_cell BK168.out 6).trans rfl, (blk_cell BK169.out 0).trans rfl, (blk_cell BK169.out 1).trans rfl, (blk_cell BK169.out 2).trans rfl, (blk_cell BK169.out 3).trans rfl, (blk_cell BK169.out 4).trans rfl, (blk_cell BK169.out 5).trans rfl, (blk_cell BK169.out 6).trans rfl, ((hbc HB.out hw171_0 :)), ((hbc HB.out hw171_1 :)), ((hbc HB.out hw171_2 :)), ((hbc HB.out hw171_3 :)), ((hbc HB.out hw171_4 :)), ((hbc HB.out hw171_5 :)), ((hbc HB.out hw171_6 :)), ((hbc HB.out hw172_0 :)), ((hbc HB.out hw172_1 :)), ((hbc HB.out hw172_2 :)), ((hbc HB.out hw172_3 :)), ((hbc HB.out hw172_4 :)), ((hbc HB.out hw172_5 :)), ((hbc HB.out hw172_6 :))⟩ (fun hHeld => ?_)
               clear hK K
               refine norm_ (a' := ?_) ?_ ?_
               rotate_left
               ·
                show Act.put _ (some 72) _ = _
                simp only [Act.put, List.setIfInBounds_toArray, List.set_cons_zero, List.set_cons_succ, i64_w, i32_w]
                rfl
               refine done_ (done_of HT_.out (by kernel_rfl)) ?_
               try go_wp2
               go_ret
               exact ⟨by first | rfl | (simp [errW_none, errW_some] <;> rfl) | (simp [*, errW_none, errW_some] <;> rfl), bl2 HB GE168 GE169⟩
              ·
               replace c53 := Bool.eq_false_iff.mpr c53
               subst c53
               have H1 : ((chancelref3_Less.f kj40 ((rd_T31 l1_6 x5_1).f0) ((rd_T31 l1_6 x5_1).f1) ((rd_T31 l1_6 x5_1).f2) ((rd_T31 l1_6 x5_1).f3) ((rd_T31 l1_6 x5_1).f4.f0) ((rd_T31 l1_6 x5_1).f4.f1) ((rd_T31 l1_6 x5_1).f5) ((rd_T31 l0_6 x5_1).f0) ((rd_T31 l0_6 x5_1).f1) ((rd_T31 l0_6 x5_1).f2) ((rd_T31 l0_6 x5_1).f3) ((rd_T31 l0_6 x5_1).f4.f0) ((rd_T31 l0_6 x5_1).f4.f1) ((rd_T31 l0_6 x5_1).f5)).bind fun t176 => (if t176 = true then (some false) else (chancelref3_Less.l0 kj40 (wrap64 (x5_1 + 1)) a0_0 a0_1 a0_2 a0_3 a0_4 a0_5 l0_6 a1_0 a1_1 a1_2 a1_3 a1_4 a1_5 l1_6))) = some r := by rw [if_neg (show ¬ (false = true) by decide)] at H; exact H
               clear H
               have H := H1
               clear H1
               replace H := Option.bind_eq_some_iff.mp H
               obtain ⟨t176, A560, H⟩ := H
               replace H : (if t176 = true then (some false) else (chancelref3_Less.l0 kj40 (wrap64 (x5_1 + 1)) a0_0 a0_1 a0_2 a0_3 a0_4 a0_5 l0_6 a1_0 a1_1 a1_2 a1_3 a1_4 a1_5 l1_6)) = some r := H
               have A56 := aZ_ A560
               clear A560
               by_cases c57 : t176 = true
               ·
                subst c57
                have H1 : (some false) = some r := by rw [if_pos rfl] at H; exact H
                clear H
                have H := H1
                clear H1
                obtain rfl := Option.some.inj H
                try go_wp2
                replace BK168 := aZ_ (blk_drew BK168.out)
                replace BK169 := aZ_ (blk_drew BK169.out)
                replace HB := aZ_ (below_drew1 HB.out)
                have p171 : 0 ≤ (x5_1 : Int) := of_decide_eq_true asm_
                have q171 : x5_1 < (l0_6.length : Int) := of_decide_eq_true asm_
                obtain ⟨ad171, A171_6, c171_6, e171, hx171_0, hx171_1, hx171_2, hx171_3, hx171_4, hx171_5, hx171_6, hl171_6, hi171_6⟩ := at_T31 HR0_6.out x5_1 p171 q171
                have hw171_6 := hx171_6
                have hw171_5 := hx171_5
                have hw171_4 := hx171_4
                have hw171_3 := hx171_3
                have hw171_2 := hx171_2
                have hw171_1 := hx171_1
                have hw171_0 := hx171_0
                cases e171
                replace hx171_0 := (hbc HB.out hx171_0 :)
                replace hx171_1 := (hbc HB.out hx171_1 :)
                replace hx171_2 := (hbc HB.out hx171_2 :)
                replace hx171_3 := (hbc HB.out hx171_3 :)
                replace hx171_4 := (hbc HB.out hx171_4 :)
                replace hx171_5 := (hbc HB.out hx171_5 :)
                replace hx171_6 := (hbc HB.out hx171_6 :)
                have HR171_6 := aZ_ hi171_6
                have HC171_6 := aZ_ hl171_6
                clear hi171_6 hl171_6
                replace p171 := eq_true p171
                replace q171 := eq_true q171
                have p172 : 0 ≤ (x5_1 : Int) := of_decide_eq_true asm_
                have q172 : x5_1 < (l1_6.length : Int) := of_decide_eq_true asm_
                obtain ⟨ad172, A172_6, c172_6, e172, hx172_0, hx172_1, hx172_2, hx172_3, hx172_4, hx172_5, hx172_6, hl172_6, hi172_6⟩ := at_T31 HR1_6.out x5_1 p172 q172
                have hw172_6 := hx172_6
                have hw172_5 := hx172_5
                have hw172_4 := hx172_4
                have hw172_3 := hx172_3
                have hw172_2 := hx172_2
                have hw172_1 := hx172_1
                have hw172_0 := hx172_0
                cases e172
                replace hx172_0 := (hbc HB.out hx172_0 :)
                replace hx172_1 := (hbc HB.out hx172_1 :)
                replace hx172_2 := (hbc HB.out hx172_2 :)
                replace hx172_3 := (hbc HB.out hx172_3 :)
                replace hx172_4 := (hbc HB.out hx172_4 :)
                replace hx172_5 := (hbc HB.out hx172_5 :)
                replace hx172_6 := (hbc HB.out hx172_6 :)
                have HR172_6 := aZ_ hi172_6
                have HC172_6 := aZ_ hl172_6
                clear hi172_6 hl172_6
                replace p172 := eq_true p172
                replace q172 := eq_true q172
                refine start_ (n := 11) (S := fun w' => w'.cell? ⟨gb168, 0, none⟩ = some (.int .i64 a0_0) ∧ w'.cell? ⟨gb168, 1, none⟩ = some (.bool a0_1) ∧ w'.cell? ⟨gb168, 2, none⟩ = some (.int .i64 a0_2) ∧ w'.cell? ⟨gb168, 3, none⟩ = some (.string a0_3) ∧ w'.cell? ⟨gb168, 4, none⟩ = some (.string a0_4) ∧ w'.cell? ⟨gb168, 5, none⟩ = some (.string a0_5) ∧ w'.cell? ⟨gb168, 6, none⟩ = some (.slice (some ad171) l0_6.length c0_6) ∧ w'.cell? ⟨gb169, 0, none⟩ = some (.int .i64 a1_0) ∧ w'.cell? ⟨gb169, 1, none⟩ = some (.bool a1_1) ∧ w'.cell? ⟨gb169, 2, none⟩ = some (.int .i64 a1_2) ∧ w'.cell? ⟨gb169, 3, none⟩ = some (.string a1_3) ∧ w'.cell? ⟨gb169, 4, none⟩ = some (.string a1_4) ∧ w'.cell? ⟨gb169, 5, none⟩ = some (.string a1_5) ∧ w'.cell? ⟨gb169, 6, none⟩ = some (.slice (some ad172) l1_6.length c1_6) ∧ w'.cell? (ad171.add ((x5_1).toNat * 7)) = some (.int .i64 ((rd_T31 l0_6 x5_1).f0)) ∧ w'.cell? ⟨(ad171.add ((x5_1).toNat * 7)).block, (ad171.add ((x5_1).toNat * 7)).off + 1, none⟩ = some (.bool ((rd_T31 l0_6 x5_1).f1)) ∧ w'.cell? ⟨(ad171.add ((x5_1).toNat * 7)).block, (ad171.add ((x5_1).toNat * 7)).off + 2, none⟩ = some (.int .i64 ((rd_T31 l0_6 x5_1).f2)) ∧ w'.cell? ⟨(ad171.add ((x5_1).toNat * 7)).block, (ad171.add ((x5_1).toNat * 7)).off + 3, none⟩ = some (.string ((rd_T31 l0_6 x5_1).f3)) ∧ w'.cell? ⟨(ad171.add ((x5_1).toNat * 7)).block, (ad171.add ((x5_1).toNat * 7)).off + 4, none⟩ = some (.string ((rd_T31 l0_6 x5_1).f4.f0)) ∧ w'.cell? ⟨(ad171.add ((x5_1).toNat * 7)).block, (ad171.add ((x5_1).toNat * 7)).off + 5, none⟩ = some (.string ((rd_T31 l0_6 x5_1).f4.f1)) ∧ w'.cell? ⟨(ad171.add ((x5_1).toNat * 7)).block, (ad171.add ((x5_1).toNat * 7)).off + 6, none⟩ = some (.slice A171_6 ((rd_T31 l0_6 x5_1).f5).length c171_6) ∧ w'.cell? (ad172.add ((x5_1).toNat * 7)) = some (.int .i64 ((rd_T31 l1_6 x5_1).f0)) ∧ w'.cell? ⟨(ad172.add ((x5_1).toNat * 7)).block, (ad172.add ((x5_1).toNat * 7)).off + 1, none⟩ = some (.bool ((rd_T31 l1_6 x5_1).f1)) ∧ w'.cell? ⟨(ad172.add ((x5_1).toNat * 7)).block, (ad172.add ((x5_1).toNat * 7)).off + 2, none⟩ = some (.int .i64 ((rd_T31 l1_6 x5_1).f2)) ∧ w'.cell? ⟨(ad172.add ((x5_1).toNat * 7)).block, (ad172.add ((x5_1).toNat * 7)).off + 3, none⟩ = some (.string ((rd_T31 l1_6 x5_1).f3)) ∧ w'.cell? ⟨(ad172.add ((x5_1).toNat * 7)).block, (ad172.add ((x5_1).toNat * 7)).off + 4, none⟩ = some (.string ((rd_T31 l1_6 x5_1).f4.f0)) ∧ w'.cell? ⟨(ad172.add ((x5_1).toNat * 7)).block, (ad172.add ((x5_1).toNat * 7)).off + 5, none⟩ = some (.string ((rd_T31 l1_6 x5_1).f4.f1)) ∧ w'.cell? ⟨(ad172.add ((x5_1).toNat * 7)).block, (ad172.add ((x5_1).toNat * 7)).off + 6, none⟩ = some (.slice A172_6 ((rd_T31 l1_6 x5_1).f5).length c172_6)) (ds := []) #[false, false, false, false, false, false, false, false, false, false, false] (by kernel_rfl) rfl rfl ⟨(blk_cell BK168.out 0).trans rfl, (blk_cell BK168.out 1).trans rfl, (blk_cell BK168.out 2).trans rfl, (blk_cell BK168.out 3).trans rfl, (blk_cell BK168.out 4).trans rfl, (blk_cell BK168.out 5).trans rfl, (blk_cell BK168.out 6).trans rfl, (blk_cell BK169.out 0).trans rfl, (blk_cell BK169.out 1).trans rfl, (blk_cell BK169.out 2).trans rfl, (blk_cell BK169.out 3).trans rfl, (blk_cell BK169.out 4).trans rfl, (blk_cell BK169.out 5).trans rfl, (blk_cell BK169.out 6).trans rfl, ((hbc HB.out hw171_0 :)), ((hbc HB.out hw171_1 :)), ((hbc HB.out hw171_2 :)), ((hbc HB.out hw171_3 :)), ((hbc HB.out hw171_4 :)), ((hbc HB.out hw171_5 :)), ((hbc HB.out hw171_6 :)), ((hbc HB.out hw172_0 :)), ((hbc HB.out hw172_1 :)), ((hbc HB.out hw172_2 :)), ((hbc HB.out hw172_3 :)), ((hbc HB.out hw172_4 :)), ((hbc HB.out hw172_5 :)), ((hbc HB.out hw172_6 :))⟩ (fun hHeld => ?_); refine with_tabW chancelref3_Less.tab15 chancelref3_Less.bits15 (fun HT_ HW_ => ?_)
                generalize wc.drew = w58 at BK168 BK169 HB HR171_6 HR172_6 hx171_0 hx171_1 hx171_2 hx171_3 hx171_4 hx171_5 hx171_6 hx172_0 hx172_1 hx172_2 hx172_3 hx172_4 hx172_5 hx172_6 hHeld ⊢
                refine pS_ 0 62 (fa 11 1) HT_ ?_
                refine pS_ 2 64 (fa 11 5) HT_ ?_
                refine pS_ 5 67 (fa 11 37) HT_ ?_
                refine pS_ 7 69 (fa 11 165) HT_ ?_
                refine tS_ 1 63 (fa 11 167) HT_ HW_ hHeld ?_
                refine pS_ 3 65 (fa 11 175) HT_ ?_
                refine tS_ 4 66 (fa 11 191) HT_ HW_ hHeld ?_
                refine tS_ 6 68 (fa 11 255) HT_ HW_ hHeld ?_
                refine pS_ 8 70 (fa 11 511) HT_ ?_
                refine tS_ 9 71 (fa 11 1023) HT_ HW_ hHeld ?_
                refine one_ (i := 10) (N := some 72) #[true, true, true, true, true, true, true, true, true, true, true] rfl rfl (one_of HT_.out (by kernel_rfl)) (by decide) (fun K hK => ?_)
                refine goes_ Try.func119 (by kernel_rfl) rfl #[.agg #[.int .i64 ((rd_T31 l0_6 x5_1).f0), .bool ((rd_T31 l0_6 x5_1).f1), .int .i64 ((rd_T31 l0_6 x5_1).f2), .string ((rd_T31 l0_6 x5_1).f3), .string ((rd_T31 l0_6 x5_1).f4.f0), .string ((rd_T31 l0_6 x5_1).f4.f1), .slice A171_6 ((rd_T31 l0_6 x5_1).f5).length c171_6], .agg #[.int .i64 ((rd_T31 l1_6 x5_1).f0), .bool ((rd_T31 l1_6 x5_1).f1), .int .i64 ((rd_T31 l1_6 x5_1).f2), .string ((rd_T31 l1_6 x5_1).f3), .string ((rd_T31 l1_6 x5_1).f4.f0), .string ((rd_T31 l1_6 x5_1).f4.f1), .slice A172_6 ((rd_T31 l1_6 x5_1).f5).length c172_6]] (by rfl) rfl rfl gm_ ?_
                with_reducible refine (ih kj40 (by have := HK1.out; have := HJ40.out; omega) ((rd_T31 l0_6 x5_1).f0) ((rd_T31 l0_6 x5_1).f1) ((rd_T31 l0_6 x5_1).f2) ((rd_T31 l0_6 x5_1).f3) ((rd_T31 l0_6 x5_1).f4.f0) ((rd_T31 l0_6 x5_1).f4.f1) _ _ ((rd_T31 l0_6 x5_1).f5) ((rd_T31 l1_6 x5_1).f0) ((rd_T31 l1_6 x5_1).f1) ((rd_T31 l1_6 x5_1).f2) ((rd_T31 l1_6 x5_1).f3) ((rd_T31 l1_6 x5_1).f4.f0) ((rd_T31 l1_6 x5_1).f4.f1) _ _ ((rd_T31 l1_6 x5_1).f5) false _ ?side1 ?side2 ?side3 ?side4 A52.out).mono ?_
                (case side1 => exact kC (Kd.C_below HR171_6.out HB.out))
                (case side2 => exact HC171_6.out)
                (case side3 => exact kC (Kd.C_below HR172_6.out HB.out))
                (case side4 => exact HC172_6.out)
                rintro e w59 ⟨rfl, hb⟩
                refine ⟨_, rfl, ?_⟩
                replace BK168 := aZ_ (blk_below (g := gb168) (o := .cells #[.int .i64 a0_0, .bool a0_1, .int .i64 a0_2, .string a0_3, .string a0_4, .string a0_5, .slice (some ad171) l0_6.length c0_6] 31 (0, 0)) (bk BK168) hb)
                replace BK169 := aZ_ (blk_below (g := gb169) (o := .cells #[.int .i64 a1_0, .bool a1_1, .int .i64 a1_2, .string a1_3, .string a1_4, .string a1_5, .slice (some ad172) l1_6.length c1_6] 31 (0, 0)) (bk BK169) hb)
                replace HB := aZ_ (below_step (bl2 HB GE168 GE169) hb)
                (try clear hb)
                (try clear hb2)
                (try clear hk)
                (try clear hi)
                refine hK.out _ _ ⟨(blk_cell BK168.out 0).trans rfl, (blk_cell BK168.out 1).trans rfl, (blk_cell BK168.out 2).trans rfl, (blk_cell BK168.out 3).trans rfl, (blk_cell BK168.out 4).trans rfl, (blk_cell BK168.out 5).trans rfl, (blk_cell BK168.out 6).trans rfl, (blk_cell BK169.out 0).trans rfl, (blk_cell BK169.out 1).trans rfl, (blk_cell BK169.out 2).trans rfl, (blk_cell BK169.out 3).trans rfl, (blk_cell BK169.out 4).trans rfl, (blk_cell BK169.out 5).trans rfl, (blk_cell BK169.out 6).trans rfl, ((hbc HB.out hw171_0 :)), ((hbc HB.out hw171_1 :)), ((hbc HB.out hw171_2 :)), ((hbc HB.out hw171_3 :)), ((hbc HB.out hw171_4 :)), ((hbc HB.out hw171_5 :)), ((hbc HB.out hw171_6 :)), ((hbc HB.out hw172_0 :)), ((hbc HB.out hw172_1 :)), ((hbc HB.out hw172_2 :)), ((hbc HB.out hw172_3 :)), ((hbc HB.out hw172_4 :)), ((hbc HB.out hw172_5 :)), ((hbc HB.out hw172_6 :))⟩ (fun hHeld => ?_)
                clear hK K
                refine norm_ (a' := ?_) ?_ ?_
                rotate_left
                ·
                 show Act.put _ (some 72) _ = _
                 simp only [Act.put, List.setIfInBounds_toArray, List.set_cons_zero, List.set_cons_succ, i64_w, i32_w]
                 rfl
                refine done_ (done_of HT_.out (by kernel_rfl)) ?_
                try go_wp2
                replace BK168 := aZ_ (blk_drew BK168.out)
                replace BK169 := aZ_ (blk_drew BK169.out)
                replace HB := aZ_ (below_drew1 HB.out)
                have p174 : 0 ≤ (x5_1 : Int) := of_decide_eq_true asm_
                have q174 : x5_1 < (l1_6.length : Int) := of_decide_eq_true asm_
                obtain ⟨ad174, A174_6, c174_6, e174, hx174_0, hx174_1, hx174_2, hx174_3, hx174_4, hx174_5, hx174_6, hl174_6, hi174_6⟩ := at_T31 HR1_6.out x5_1 p174 q174
                have hw174_6 := hx174_6
                have hw174_5 := hx174_5
                have hw174_4 := hx174_4
                have hw174_3 := hx174_3
                have hw174_2 := hx174_2
                have hw174_1 := hx174_1
                have hw174_0 := hx174_0
                obtain rfl : ad172 = ad174 := (by injection e174)
                replace hx174_0 := (hbc HB.out hx174_0 :)
                replace hx174_1 := (hbc HB.out hx174_1 :)
                replace hx174_2 := (hbc HB.out hx174_2 :)
                replace hx174_3 := (hbc HB.out hx174_3 :)
                replace hx174_4 := (hbc HB.out hx174_4 :)
                replace hx174_5 := (hbc HB.out hx174_5 :)
                replace hx174_6 := (hbc HB.out hx174_6 :)
                have HR174_6 := aZ_ hi174_6
                have HC174_6 := aZ_ hl174_6
                clear hi174_6 hl174_6
                replace p174 := eq_true p174
                replace q174 := eq_true q174
                have p175 : 0 ≤ (x5_1 : Int) := of_decide_eq_true asm_
                have q175 : x5_1 < (l0_6.length : Int) := of_decide_eq_true asm_
                obtain ⟨ad175, A175_6, c175_6, e175, hx175_0, hx175_1, hx175_2, hx175_3, hx175_4, hx175_5, hx175_6, hl175_6, hi175_6⟩ := at_T31 HR0_6.out x5_1 p175 q175
                have hw175_6 := hx175_6
                have hw175_5 := hx175_5
                have hw175_4 := hx175_4
                have hw175_3 := hx175_3
                have hw175_2 := hx175_2
                have hw175_1 := hx175_1
                have hw175_0 := hx175_0
                obtain rfl : ad171 = ad175 := (by injection e175)
                replace hx175_0 := (hbc HB.out hx175_0 :)
                replace hx175_1 := (hbc HB.out hx175_1 :)
                replace hx175_2 := (hbc HB.out hx175_2 :)
                replace hx175_3 := (hbc HB.out hx175_3 :)
                replace hx175_4 := (hbc HB.out hx175_4 :)
                replace hx175_5 := (hbc HB.out hx175_5 :)
                replace hx175_6 := (hbc HB.out hx175_6 :)
                have HR175_6 := aZ_ hi175_6
                have HC175_6 := aZ_ hl175_6
                clear hi175_6 hl175_6
                replace p175 := eq_true p175
                replace q175 := eq_true q175
                refine start_ (n := 11) (S := fun w' => w'.cell? ⟨gb169, 0, none⟩ = some (.int .i64 a1_0) ∧ w'.cell? ⟨gb169, 1, none⟩ = some (.bool a1_1) ∧ w'.cell? ⟨gb169, 2, none⟩ = some (.int .i64 a1_2) ∧ w'.cell? ⟨gb169, 3, none⟩ = some (.string a1_3) ∧ w'.cell? ⟨gb169, 4, none⟩ = some (.string a1_4) ∧ w'.cell? ⟨gb169, 5, none⟩ = some (.string a1_5) ∧ w'.cell? ⟨gb169, 6, none⟩ = some (.slice (some ad172) l1_6.length c1_6) ∧ w'.cell? ⟨gb168, 0, none⟩ = some (.int .i64 a0_0) ∧ w'.cell? ⟨gb168, 1, none⟩ = some (.bool a0_1) ∧ w'.cell? ⟨gb168, 2, none⟩ = some (.int .i64 a0_2) ∧ w'.cell? ⟨gb168, 3, none⟩ = some (.string a0_3) ∧ w'.cell? ⟨gb168, 4, none⟩ = some (.string a0_4) ∧ w'.cell? ⟨gb168, 5, none⟩ = some (.string a0_5) ∧ w'.cell? ⟨gb168, 6, none⟩ = some (.slice (some ad171) l0_6.length c0_6) ∧ w'.cell? (ad172.add ((x5_1).toNat * 7)) = some (.int .i64 ((rd_T31 l1_6 x5_1).f0)) ∧ w'.cell? ⟨(ad172.add ((x5_1).toNat * 7)).block, (ad172.add ((x5_1).toNat * 7)).off + 1, none⟩ = some (.bool ((rd_T31 l1_6 x5_1).f1)) ∧ w'.cell? ⟨(ad172.add ((x5_1).toNat * 7)).block, (ad172.add ((x5_1).toNat * 7)).off + 2, none⟩ = some (.int .i64 ((rd_T31 l1_6 x5_1).f2)) ∧ w'.cell? ⟨(ad172.add ((x5_1).toNat * 7)).block, (ad172.add ((x5_1).toNat * 7)).off + 3, none⟩ = some (.string ((rd_T31 l1_6 x5_1).f3)) ∧ w'.cell? ⟨(ad172.add ((x5_1).toNat * 7)).block, (ad172.add ((x5_1).toNat * 7)).off + 4, none⟩ = some (.string ((rd_T31 l1_6 x5_1).f4.f0)) ∧ w'.cell? ⟨(ad172.add ((x5_1).toNat * 7)).block, (ad172.add ((x5_1).toNat * 7)).off + 5, none⟩ = some (.string ((rd_T31 l1_6 x5_1).f4.f1)) ∧ w'.cell? ⟨(ad172.add ((x5_1).toNat * 7)).block, (ad172.add ((x5_1).toNat * 7)).off + 6, none⟩ = some (.slice A174_6 ((rd_T31 l1_6 x5_1).f5).length c174_6) ∧ w'.cell? (ad171.add ((x5_1).toNat * 7)) = some (.int .i64 ((rd_T31 l0_6 x5_1).f0)) ∧ w'.cell? ⟨(ad171.add ((x5_1).toNat * 7)).block, (ad171.add ((x5_1).toNat * 7)).off + 1, none⟩ = some (.bool ((rd_T31 l0_6 x5_1).f1)) ∧ w'.cell? ⟨(ad171.add ((x5_1).toNat * 7)).block, (ad171.add ((x5_1).toNat * 7)).off + 2, none⟩ = some (.int .i64 ((rd_T31 l0_6 x5_1).f2)) ∧ w'.cell? ⟨(ad171.add ((x5_1).toNat * 7)).block, (ad171.add ((x5_1).toNat * 7)).off + 3, none⟩ = some (.string ((rd_T31 l0_6 x5_1).f3)) ∧ w'.cell? ⟨(ad171.add ((x5_1).toNat * 7)).block, (ad171.add ((x5_1).toNat * 7)).off + 4, none⟩ = some (.string ((rd_T31 l0_6 x5_1).f4.f0)) ∧ w'.cell? ⟨(ad171.add ((x5_1).toNat * 7)).block, (ad171.add ((x5_1).toNat * 7)).off + 5, none⟩ = some (.string ((rd_T31 l0_6 x5_1).f4.f1)) ∧ w'.cell? ⟨(ad171.add ((x5_1).toNat * 7)).block, (ad171.add ((x5_1).toNat * 7)).off + 6, none⟩ = some (.slice A175_6 ((rd_T31 l0_6 x5_1).f5).length c175_6)) (ds := []) #[false, false, false, false, false, false, false, false, false, false, false] (by kernel_rfl) rfl rfl ⟨(blk_cell BK169.out 0).trans rfl, (blk_cell BK169.out 1).trans rfl, (blk_cell BK169.out 2).trans rfl, (blk_cell BK169.out 3).trans rfl, (blk_cell BK169.out 4).trans rfl, (blk_cell BK169.out 5).trans rfl, (blk_cell BK169.out 6).trans rfl, (blk_cell BK168.out 0).trans rfl, (blk_cell BK168.out 1).trans rfl, (blk_cell BK168.out 2).trans rfl, (blk_cell BK168.out 3).trans rfl, (blk_cell BK168.out 4).trans rfl, (blk_cell BK168.out 5).trans rfl, (blk_cell BK168.out 6).trans rfl, ((hbc HB.out hw174_0 :)), ((hbc HB.out hw174_1 :)), ((hbc HB.out hw174_2 :)), ((hbc HB.out hw174_3 :)), ((hbc HB.out hw174_4 :)), ((hbc HB.out hw174_5 :)), ((hbc HB.out hw174_6 :)), ((hbc HB.out hw175_0 :)), ((hbc HB.out hw175_1 :)), ((hbc HB.out hw175_2 :)), ((hbc HB.out hw175_3 :)), ((hbc HB.out hw175_4 :)), ((hbc HB.out hw175_5 :)), ((hbc HB.out hw175_6 :))⟩ (fun hHeld => ?_); refine with_tabW chancelref3_Less.tab17 chancelref3_Less.bits17 (fun HT_ HW_ => ?_)
                generalize w59.drew = w60 at BK168 BK169 HB HR174_6 HR175_6 hx174_0 hx174_1 hx174_2 hx174_3 hx174_4 hx174_5 hx174_6 hx175_0 hx175_1 hx175_2 hx175_3 hx175_4 hx175_5 hx175_6 hHeld ⊢
                refine pS_ 0 73 (fa 11 1) HT_ ?_
                refine pS_ 2 75 (fa 11 5) HT_ ?_
                refine pS_ 5 78 (fa 11 37) HT_ ?_
                refine pS_ 7 80 (fa 11 165) HT_ ?_
                refine tS_ 1 74 (fa 11 167) HT_ HW_ hHeld ?_
                refine pS_ 3 76 (fa 11 175) HT_ ?_
                refine tS_ 4 77 (fa 11 191) HT_ HW_ hHeld ?_
                refine tS_ 6 79 (fa 11 255) HT_ HW_ hHeld ?_
                refine pS_ 8 81 (fa 11 511) HT_ ?_
                refine tS_ 9 82 (fa 11 1023) HT_ HW_ hHeld ?_
                refine one_ (i := 10) (N := some 83) #[true, true, true, true, true, true, true, true, true, true, true] rfl rfl (one_of HT_.out (by kernel_rfl)) (by decide) (fun K hK => ?_)
                refine goes_ Try.func119 (by kernel_rfl) rfl #[.agg #[.int .i64 ((rd_T31 l1_6 x5_1).f0), .bool ((rd_T31 l1_6 x5_1).f1), .int .i64 ((rd_T31 l1_6 x5_1).f2), .string ((rd_T31 l1_6 x5_1).f3), .string ((rd_T31 l1_6 x5_1).f4.f0), .string ((rd_T31 l1_6 x5_1).f4.f1), .slice A174_6 ((rd_T31 l1_6 x5_1).f5).length c174_6], .agg #[.int .i64 ((rd_T31 l0_6 x5_1).f0), .bool ((rd_T31 l0_6 x5_1).f1), .int .i64 ((rd_T31 l0_6 x5_1).f2), .string ((rd_T31 l0_6 x5_1).f3), .string ((rd_T31 l0_6 x5_1).f4.f0), .string ((rd_T31 l0_6 x5_1).f4.f1), .slice A175_6 ((rd_T31 l0_6 x5_1).f5).length c175_6]] (by rfl) rfl rfl gm_ ?_
                with_reducible refine (ih kj40 (by have := HK1.out; have := HJ40.out; omega) ((rd_T31 l1_6 x5_1).f0) ((rd_T31 l1_6 x5_1).f1) ((rd_T31 l1_6 x5_1).f2) ((rd_T31 l1_6 x5_1).f3) ((rd_T31 l1_6 x5_1).f4.f0) ((rd_T31 l1_6 x5_1).f4.f1) _ _ ((rd_T31 l1_6 x5_1).f5) ((rd_T31 l0_6 x5_1).f0) ((rd_T31 l0_6 x5_1).f1) ((rd_T31 l0_6 x5_1).f2) ((rd_T31 l0_6 x5_1).f3) ((rd_T31 l0_6 x5_1).f4.f0) ((rd_T31 l0_6 x5_1).f4.f1) _ _ ((rd_T31 l0_6 x5_1).f5) true _ ?side1 ?side2 ?side3 ?side4 A56.out).mono ?_
                (case side1 => exact kC (Kd.C_below HR174_6.out HB.out))
                (case side2 => exact HC174_6.out)
                (case side3 => exact kC (Kd.C_below HR175_6.out HB.out))
                (case side4 => exact HC175_6.out)
                rintro e w61 ⟨rfl, hb⟩
                refine ⟨_, rfl, ?_⟩
                replace BK168 := aZ_ (blk_below (g := gb168) (o := .cells #[.int .i64 a0_0, .bool a0_1, .int .i64 a0_2, .string a0_3, .string a0_4, .string a0_5, .slice (some ad171) l0_6.length c0_6] 31 (0, 0)) (bk BK168) hb)
                replace BK169 := aZ_ (blk_below (g := gb169) (o := .cells #[.int .i64 a1_0, .bool a1_1, .int .i64 a1_2, .string a1_3, .string a1_4, .string a1_5, .slice (some ad172) l1_6.length c1_6] 31 (0, 0)) (bk BK169) hb)
                replace HB := aZ_ (below_step (bl2 HB GE168 GE169) hb)
                (try clear hb)
                (try clear hb2)
                (try clear hk)
                (try clear hi)
                refine hK.out _ _ ⟨(blk_cell BK169.out 0).trans rfl, (blk_cell BK169.out 1).trans rfl, (blk_cell BK169.out 2).trans rfl, (blk_cell BK169.out 3).trans rfl, (blk_cell BK169.out 4).trans rfl, (blk_cell BK169.out 5).trans rfl, (blk_cell BK169.out 6).trans rfl, (blk_cell BK168.out 0).trans rfl, (blk_cell BK168.out 1).trans rfl, (blk_cell BK168.out 2).trans rfl, (blk_cell BK168.out 3).trans rfl, (blk_cell BK168.out 4).trans rfl, (blk_cell BK168.out 5).trans rfl, (blk_cell BK168.out 6).trans rfl, ((hbc HB.out hw174_0 :)), ((hbc HB.out hw174_1 :)), ((hbc HB.out hw174_2 :)), ((hbc HB.out hw174_3 :)), ((hbc HB.out hw174_4 :)), ((hbc HB.out hw174_5 :)), ((hbc HB.out hw174_6 :)), ((hbc HB.out hw175_0 :)), ((hbc HB.out hw175_1 :)), ((hbc HB.out hw175_2 :)), ((hbc HB.out hw175_3 :)), ((hbc HB.out hw175_4 :)), ((hbc HB.out hw175_5 :)), ((hbc HB.out hw175_6 :))⟩ (fun hHeld => ?_)
                clear hK K
                refine norm_ (a' := ?_) ?_ ?_
                rotate_left
                ·
                 show Act.put _ (some 83) _ = _
                 simp only [Act.put, List.setIfInBounds_toArray, List.set_cons_zero, List.set_cons_succ, i64_w, i32_w]
                 rfl
                refine done_ (done_of HT_.out (by kernel_rfl)) ?_
                try go_wp2
                go_ret
                exact ⟨by first | rfl | (simp [errW_none, errW_some] <;> rfl) | (simp [*, errW_none, errW_some] <;> rfl), bl2 HB GE168 GE169⟩
               ·
                replace c57 := Bool.eq_false_iff.mpr c57
                subst c57
                have H1 : (chancelref3_Less.l0 kj40 (wrap64 (x5_1 + 1)) a0_0 a0_1 a0_2 a0_3 a0_4 a0_5 l0_6 a1_0 a1_1 a1_2 a1_3 a1_4 a1_5 l1_6) = some r := by rw [if_neg (show ¬ (false = true) by decide)] at H; exact H
                clear H
                have H := H1
                clear H1
                have H' := aZ_ H
                clear H
                try go_wp2
                replace BK168 := aZ_ (blk_drew BK168.out)
                replace BK169 := aZ_ (blk_drew BK169.out)
                replace HB := aZ_ (below_drew1 HB.out)
                have p171 : 0 ≤ (x5_1 : Int) := of_decide_eq_true asm_
                have q171 : x5_1 < (l0_6.length : Int) := of_decide_eq_true asm_
                obtain ⟨ad171, A171_6, c171_6, e171, hx171_0, hx171_1, hx171_2, hx171_3, hx171_4, hx171_5, hx171_6, hl171_6, hi171_6⟩ := at_T31 HR0_6.out x5_1 p171 q171
                have hw171_6 := hx171_6
                have hw171_5 := hx171_5
                have hw171_4 := hx171_4
                have hw171_3 := hx171_3
                have hw171_2 := hx171_2
                have hw171_1 := hx171_1
                have hw171_0 := hx171_0
                cases e171
                replace hx171_0 := (hbc HB.out hx171_0 :)
                replace hx171_1 := (hbc HB.out hx171_1 :)
                replace hx171_2 := (hbc HB.out hx171_2 :)
                replace hx171_3 := (hbc HB.out hx171_3 :)
                replace hx171_4 := (hbc HB.out hx171_4 :)
                replace hx171_5 := (hbc HB.out hx171_5 :)
                replace hx171_6 := (hbc HB.out hx171_6 :)
                have HR171_6 := aZ_ hi171_6
                have HC171_6 := aZ_ hl171_6
                clear hi171_6 hl171_6
                replace p171 := eq_true p171
                replace q171 := eq_true q171
                have p172 : 0 ≤ (x5_1 : Int) := of_decide_eq_true asm_
                have q172 : x5_1 < (l1_6.length : Int) := of_decide_eq_true asm_
                obtain ⟨ad172, A172_6, c172_6, e172, hx172_0, hx172_1, hx172_2, hx172_3, hx172_4, hx172_5, hx172_6, hl172_6, hi172_6⟩ := at_T31 HR1_6.out x5_1 p172 q172
                have hw172_6 := hx172_6
                have hw172_5 := hx172_5
                have hw172_4 := hx172_4
                have hw172_3 := hx172_3
                have hw172_2 := hx172_2
                have hw172_1 := hx172_1
                have hw172_0 := hx172_0
                cases e172
                replace hx172_0 := (hbc HB.out hx172_0 :)
                replace hx172_1 := (hbc HB.out hx172_1 :)
                replace hx172_2 := (hbc HB.out hx172_2 :)
                replace hx172_3 := (hbc HB.out hx172_3 :)
                replace hx172_4 := (hbc HB.out hx172_4 :)
                replace hx172_5 := (hbc HB.out hx172_5 :)
                replace hx172_6 := (hbc HB.out hx172_6 :)
                have HR172_6 := aZ_ hi172_6
                have HC172_6 := aZ_ hl172_6
                clear hi172_6 hl172_6
                replace p172 := eq_true p172
                replace q172 := eq_true q172
                refine start_ (n := 11) (S := fun w' => w'.cell? ⟨gb168, 0, none⟩ = some (.int .i64 a0_0) ∧ w'.cell? ⟨gb168, 1, none⟩ = some (.bool a0_1) ∧ w'.cell? ⟨gb168, 2, none⟩ = some (.int .i64 a0_2) ∧ w'.cell? ⟨gb168, 3, none⟩ = some (.string a0_3) ∧ w'.cell? ⟨gb168, 4, none⟩ = some (.string a0_4) ∧ w'.cell? ⟨gb168, 5, none⟩ = some (.string a0_5) ∧ w'.cell? ⟨gb168, 6, none⟩ = some (.slice (some ad171) l0_6.length c0_6) ∧ w'.cell? ⟨gb169, 0, none⟩ = some (.int .i64 a1_0) ∧ w'.cell? ⟨gb169, 1, none⟩ = some (.bool a1_1) ∧ w'.cell? ⟨gb169, 2, none⟩ = some (.int .i64 a1_2) ∧ w'.cell? ⟨gb169, 3, none⟩ = some (.string a1_3) ∧ w'.cell? ⟨gb169, 4, none⟩ = some (.string a1_4) ∧ w'.cell? ⟨gb169, 5, none⟩ = some (.string a1_5) ∧ w'.cell? ⟨gb169, 6, none⟩ = some (.slice (some ad172) l1_6.length c1_6) ∧ w'.cell? (ad171.add ((x5_1).toNat * 7)) = some (.int .i64 ((rd_T31 l0_6 x5_1).f0)) ∧ w'.cell? ⟨(ad171.add ((x5_1).toNat * 7)).block, (ad171.add ((x5_1).toNat * 7)).off + 1, none⟩ = some (.bool ((rd_T31 l0_6 x5_1).f1)) ∧ w'.cell? ⟨(ad171.add ((x5_1).toNat * 7)).block, (ad171.add ((x5_1).toNat * 7)).off + 2, none⟩ = some (.int .i64 ((rd_T31 l0_6 x5_1).f2)) ∧ w'.cell? ⟨(ad171.add ((x5_1).toNat * 7)).block, (ad171.add ((x5_1).toNat * 7)).off + 3, none⟩ = some (.string ((rd_T31 l0_6 x5_1).f3)) ∧ w'.cell? ⟨(ad171.add ((x5_1).toNat * 7)).block, (ad171.add ((x5_1).toNat * 7)).off + 4, none⟩ = some (.string ((rd_T31 l0_6 x5_1).f4.f0)) ∧ w'.cell? ⟨(ad171.add ((x5_1).toNat * 7)).block, (ad171.add ((x5_1).toNat * 7)).off + 5, none⟩ = some (.string ((rd_T31 l0_6 x5_1).f4.f1)) ∧ w'.cell? ⟨(ad171.add ((x5_1).toNat * 7)).block, (ad171.add ((x5_1).toNat * 7)).off + 6, none⟩ = some (.slice A171_6 ((rd_T31 l0_6 x5_1).f5).length c171_6) ∧ w'.cell? (ad172.add ((x5_1).toNat * 7)) = some (.int .i64 ((rd_T31 l1_6 x5_1).f0)) ∧ w'.cell? ⟨(ad172.add ((x5_1).toNat * 7)).block, (ad172.add ((x5_1).toNat * 7)).off + 1, none⟩ = some (.bool ((rd_T31 l1_6 x5_1).f1)) ∧ w'.cell? ⟨(ad172.add ((x5_1).toNat * 7)).block, (ad172.add ((x5_1).toNat * 7)).off + 2, none⟩ = some (.int .i64 ((rd_T31 l1_6 x5_1).f2)) ∧ w'.cell? ⟨(ad172.add ((x5_1).toNat * 7)).block, (ad172.add ((x5_1).toNat * 7)).off + 3, none⟩ = some (.string ((rd_T31 l1_6 x5_1).f3)) ∧ w'.cell? ⟨(ad172.add ((x5_1).toNat * 7)).block, (ad172.add ((x5_1).toNat * 7)).off + 4, none⟩ = some (.string ((rd_T31 l1_6 x5_1).f4.f0)) ∧ w'.cell? ⟨(ad172.add ((x5_1).toNat * 7)).block, (ad172.add ((x5_1).toNat * 7)).off + 5, none⟩ = some (.string ((rd_T31 l1_6 x5_1).f4.f1)) ∧ w'.cell? ⟨(ad172.add ((x5_1).toNat * 7)).block, (ad172.add ((x5_1).toNat * 7)).off + 6, none⟩ = some (.slice A172_6 ((rd_T31 l1_6 x5_1).f5).length c172_6)) (ds := []) #[false, false, false, false, false, false, false, false, false, false, false] (by kernel_rfl) rfl rfl ⟨(blk_cell BK168.out 0).trans rfl, (blk_cell BK168.out 1).trans rfl, (blk_cell BK168.out 2).trans rfl, (blk_cell BK168.out 3).trans rfl, (blk_cell BK168.out 4).trans rfl, (blk_cell BK168.out 5).trans rfl, (blk_cell BK168.out 6).trans rfl, (blk_cell BK169.out 0).trans rfl, (blk_cell BK169.out 1).trans rfl, (blk_cell BK169.out 2).trans rfl, (blk_cell BK169.out 3).trans rfl, (blk_cell BK169.out 4).trans rfl, (blk_cell BK169.out 5).trans rfl, (blk_cell BK169.out 6).trans rfl, ((hbc HB.out hw171_0 :)), ((hbc HB.out hw171_1 :)), ((hbc HB.out hw171_2 :)), ((hbc HB.out hw171_3 :)), ((hbc HB.out hw171_4 :)), ((hbc HB.out hw171_5 :)), ((hbc HB.out hw171_6 :)), ((hbc HB.out hw172_0 :)), ((hbc HB.out hw172_1 :)), ((hbc HB.out hw172_2 :)), ((hbc HB.out hw172_3 :)), ((hbc HB.out hw172_4 :)), ((hbc HB.out hw172_5 :)), ((hbc HB.out hw172_6 :))⟩ (fun hHeld => ?_); refine with_tabW chancelref3_Less.tab15 chancelref3_Less.bits15 (fun HT_ HW_ => ?_)
                generalize wc.drew = w62 at BK168 BK169 HB HR171_6 HR172_6 hx171_0 hx171_1 hx171_2 hx171_3 hx171_4 hx171_5 hx171_6 hx172_0 hx172_1 hx172_2 hx172_3 hx172_4 hx172_5 hx172_6 hHeld ⊢
                refine pS_ 0 62 (fa 11 1) HT_ ?_
                refine pS_ 2 64 (fa 11 5) HT_ ?_
                refine pS_ 5 67 (fa 11 37) HT_ ?_
                refine pS_ 7 69 (fa 11 165) HT_ ?_
                refine tS_ 1 63 (fa 11 167) HT_ HW_ hHeld ?_
                refine pS_ 3 65 (fa 11 175) HT_ ?_
                refine tS_ 4 66 (fa 11 191) HT_ HW_ hHeld ?_
                refine tS_ 6 68 (fa 11 255) HT_ HW_ hHeld ?_
                refine pS_ 8 70 (fa 11 511) HT_ ?_
                refine tS_ 9 71 (fa 11 1023) HT_ HW_ hHeld ?_
                refine one_ (i := 10) (N := some 72) #[true, true, true, true, true, true, true, true, true, true, true] rfl rfl (one_of HT_.out (by kernel_rfl)) (by decide) (fun K hK => ?_)
                refine goes_ Try.func119 (by kernel_rfl) rfl #[.agg #[.int .i64 ((rd_T31 l0_6 x5_1).f0), .bool ((rd_T31 l0_6 x5_1).f1), .int .i64 ((rd_T31 l0_6 x5_1).f2), .string ((rd_T31 l0_6 x5_1).f3), .string ((rd_T31 l0_6 x5_1).f4.f0), .string ((rd_T31 l0_6 x5_1).f4.f1), .slice A171_6 ((rd_T31 l0_6 x5_1).f5).length c171_6], .agg #[.int .i64 ((rd_T31 l1_6 x5_1).f0), .bool ((rd_T31 l1_6 x5_1).f1), .int .i64 ((rd_T31 l1_6 x5_1).f2), .string ((rd_T31 l1_6 x5_1).f3), .string ((rd_T31 l1_6 x5_1).f4.f0), .string ((rd_T31 l1_6 x5_1).f4.f1), .slice A172_6 ((rd_T31 l1_6 x5_1).f5).length c172_6]] (by rfl) rfl rfl gm_ ?_
                with_reducible refine (ih kj40 (by have := HK1.out; have := HJ40.out; omega) ((rd_T31 l0_6 x5_1).f0) ((rd_T31 l0_6 x5_1).f1) ((rd_T31 l0_6 x5_1).f2) ((rd_T31 l0_6 x5_1).f3) ((rd_T31 l0_6 x5_1).f4.f0) ((rd_T31 l0_6 x5_1).f4.f1) _ _ ((rd_T31 l0_6 x5_1).f5) ((rd_T31 l1_6 x5_1).f0) ((rd_T31 l1_6 x5_1).f1) ((rd_T31 l1_6 x5_1).f2) ((rd_T31 l1_6 x5_1).f3) ((rd_T31 l1_6 x5_1).f4.f0) ((rd_T31 l1_6 x5_1).f4.f1) _ _ ((rd_T31 l1_6 x5_1).f5) false _ ?side1 ?side2 ?side3 ?side4 A52.out).mono ?_
                (case side1 => exact kC (Kd.C_below HR171_6.out HB.out))
                (case side2 => exact HC171_6.out)
                (case side3 => exact kC (Kd.C_below HR172_6.out HB.out))
                (case side4 => exact HC172_6.out)
                rintro e w63 ⟨rfl, hb⟩
                refine ⟨_, rfl, ?_⟩
                replace BK168 := aZ_ (blk_below (g := gb168) (o := .cells #[.int .i64 a0_0, .bool a0_1, .int .i64 a0_2, .string a0_3, .string a0_4, .string a0_5, .slice (some ad171) l0_6.length c0_6] 31 (0, 0)) (bk BK168) hb)
                replace BK169 := aZ_ (blk_below (g := gb169) (o := .cells #[.int .i64 a1_0, .bool a1_1, .int .i64 a1_2, .string a1_3, .string a1_4, .string a1_5, .slice (some ad172) l1_6.length c1_6] 31 (0, 0)) (bk BK169) hb)
                replace HB := aZ_ (below_step (bl2 HB GE168 GE169) hb)
                (try clear hb)
                (try clear hb2)
                (try clear hk)
                (try clear hi)
                refine hK.out _ _ ⟨(blk_cell BK168.out 0).trans rfl, (blk_cell BK168.out 1).trans rfl, (blk_cell BK168.out 2).trans rfl, (blk_cell BK168.out 3).trans rfl, (blk_cell BK168.out 4).trans rfl, (blk_cell BK168.out 5).trans rfl, (blk_cell BK168.out 6).trans rfl, (blk_cell BK169.out 0).trans rfl, (blk_cell BK169.out 1).trans rfl, (blk_cell BK169.out 2).trans rfl, (blk_cell BK169.out 3).trans rfl, (blk_cell BK169.out 4).trans rfl, (blk_cell BK169.out 5).trans rfl, (blk_cell BK169.out 6).trans rfl, ((hbc HB.out hw171_0 :)), ((hbc HB.out hw171_1 :)), ((hbc HB.out hw171_2 :)), ((hbc HB.out hw171_3 :)), ((hbc HB.out hw171_4 :)), ((hbc HB.out hw171_5 :)), ((hbc HB.out hw171_6 :)), ((hbc HB.out hw172_0 :)), ((hbc HB.out hw172_1 :)), ((hbc HB.out hw172_2 :)), ((hbc HB.out hw172_3 :)), ((hbc HB.out hw172_4 :)), ((hbc HB.out hw172_5 :)), ((hbc HB.out hw172_6 :))⟩ (fun hHeld => ?_)
                clear hK K
                refine norm_ (a' := ?_) ?_ ?_
                rotate_left
                ·
                 show Act.put _ (some 72) _ = _
                 simp only [Act.put, List.setIfInBounds_toArray, List.set_cons_zero, List.set_cons_succ, i64_w, i32_w]
                 rfl
                refine done_ (done_of HT_.out (by kernel_rfl)) ?_
                try go_wp2
                replace BK168 := aZ_ (blk_drew BK168.out)
                replace BK169 := aZ_ (blk_drew BK169.out)
                replace HB := aZ_ (below_drew1 HB.out)
                have p174 : 0 ≤ (x5_1 : Int) := of_decide_eq_true asm_
                have q174 : x5_1 < (l1_6.length : Int) := of_decide_eq_true asm_
                obtain ⟨ad174, A174_6, c174_6, e174, hx174_0, hx174_1, hx174_2, hx174_3, hx174_4, hx174_5, hx174_6, hl174_6, hi174_6⟩ := at_T31 HR1_6.out x5_1 p174 q174
                have hw174_6 := hx174_6
                have hw174_5 := hx174_5
                have hw174_4 := hx174_4
                have hw174_3 := hx174_3
                have hw174_2 := hx174_2
                have hw174_1 := hx174_1
                have hw174_0 := hx174_0
                obtain rfl : ad172 = ad174 := (by injection e174)
                replace hx174_0 := (hbc HB.out hx174_0 :)
                replace hx174_1 := (hbc HB.out hx174_1 :)
                replace hx174_2 := (hbc HB.out hx174_2 :)
                replace hx174_3 := (hbc HB.out hx174_3 :)
                replace hx174_4 := (hbc HB.out hx174_4 :)
                replace hx174_5 := (hbc HB.out hx174_5 :)
                replace hx174_6 := (hbc HB.out hx174_6 :)
                have HR174_6 := aZ_ hi174_6
                have HC174_6 := aZ_ hl174_6
                clear hi174_6 hl174_6
                replace p174 := eq_true p174
                replace q174 := eq_true q174
                have p175 : 0 ≤ (x5_1 : Int) := of_decide_eq_true asm_
                have q175 : x5_1 < (l0_6.length : Int) := of_decide_eq_true asm_
                obtain ⟨ad175, A175_6, c175_6, e175, hx175_0, hx175_1, hx175_2, hx175_3, hx175_4, hx175_5, hx175_6, hl175_6, hi175_6⟩ := at_T31 HR0_6.out x5_1 p175 q175
                have hw175_6 := hx175_6
                have hw175_5 := hx175_5
                have hw175_4 := hx175_4
                have hw175_3 := hx175_3
                have hw175_2 := hx175_2
                have hw175_1 := hx175_1
                have hw175_0 := hx175_0
                obtain rfl : ad171 = ad175 := (by injection e175)
                replace hx175_0 := (hbc HB.out hx175_0 :)
                replace hx175_1 := (hbc HB.out hx175_1 :)
                replace hx175_2 := (hbc HB.out hx175_2 :)
                replace hx175_3 := (hbc HB.out hx175_3 :)
                replace hx175_4 := (hbc HB.out hx175_4 :)
                replace hx175_5 := (hbc HB.out hx175_5 :)
                replace hx175_6 := (hbc HB.out hx175_6 :)
                have HR175_6 := aZ_ hi175_6
                have HC175_6 := aZ_ hl175_6
                clear hi175_6 hl175_6
                replace p175 := eq_true p175
                replace q175 := eq_true q175
                refine start_ (n := 11) (S := fun w' => w'.cell? ⟨gb169, 0, none⟩ = some (.int .i64 a1_0) ∧ w'.cell? ⟨gb169, 1, none⟩ = some (.bool a1_1) ∧ w'.cell? ⟨gb169, 2, none⟩ = some (.int .i64 a1_2) ∧ w'.cell? ⟨gb169, 3, none⟩ = some (.string a1_3) ∧ w'.cell? ⟨gb169, 4, none⟩ = some (.string a1_4) ∧ w'.cell? ⟨gb169, 5, none⟩ = some (.string a1_5) ∧ w'.cell? ⟨gb169, 6, none⟩ = some (.slice (some ad172) l1_6.length c1_6) ∧ w'.cell? ⟨gb168, 0, none⟩ = some (.int .i64 a0_0) ∧ w'.cell? ⟨gb168, 1, none⟩ = some (.bool a0_1) ∧ w'.cell? ⟨gb168, 2, none⟩ = some (.int .i64 a0_2) ∧ w'.cell? ⟨gb168, 3, none⟩ = some (.string a0_3) ∧ w'.cell? ⟨gb168, 4, none⟩ = some (.string a0_4) ∧ w'.cell? ⟨gb168, 5, none⟩ = some (.string a0_5) ∧ w'.cell? ⟨gb168, 6, none⟩ = some (.slice (some ad171) l0_6.length c0_6) ∧ w'.cell? (ad172.add ((x5_1).toNat * 7)) = some (.int .i64 ((rd_T31 l1_6 x5_1).f0)) ∧ w'.cell? ⟨(ad172.add ((x5_1).toNat * 7)).block, (ad172.add ((x5_1).toNat * 7)).off + 1, none⟩ = some (.bool ((rd_T31 l1_6 x5_1).f1)) ∧ w'.cell? ⟨(ad172.add ((x5_1).toNat * 7)).block, (ad172.add ((x5_1).toNat * 7)).off + 2, none⟩ = some (.int .i64 ((rd_T31 l1_6 x5_1).f2)) ∧ w'.cell? ⟨(ad172.add ((x5_1).toNat * 7)).block, (ad172.add ((x5_1).toNat * 7)).off + 3, none⟩ = some (.string ((rd_T31 l1_6 x5_1).f3)) ∧ w'.cell? ⟨(ad172.add ((x5_1).toNat * 7)).block, (ad172.add ((x5_1).toNat * 7)).off + 4, none⟩ = some (.string ((rd_T31 l1_6 x5_1).f4.f0)) ∧ w'.cell? ⟨(ad172.add ((x5_1).toNat * 7)).block, (ad172.add ((x5_1).toNat * 7)).off + 5, none⟩ = some (.string ((rd_T31 l1_6 x5_1).f4.f1)) ∧ w'.cell? ⟨(ad172.add ((x5_1).toNat * 7)).block, (ad172.add ((x5_1).toNat * 7)).off + 6, none⟩ = some (.slice A174_6 ((rd_T31 l1_6 x5_1).f5).length c174_6) ∧ w'.cell? (ad171.add ((x5_1).toNat * 7)) = some (.int .i64 ((rd_T31 l0_6 x5_1).f0)) ∧ w'.cell? ⟨(ad171.add ((x5_1).toNat * 7)).block, (ad171.add ((x5_1).toNat * 7)).off + 1, none⟩ = some (.bool ((rd_T31 l0_6 x5_1).f1)) ∧ w'.cell? ⟨(ad171.add ((x5_1).toNat * 7)).block, (ad171.add ((x5_1).toNat * 7)).off + 2, none⟩ = some (.int .i64 ((rd_T31 l0_6 x5_1).f2)) ∧ w'.cell? ⟨(ad171.add ((x5_1).toNat * 7)).block, (ad171.add ((x5_1).toNat * 7)).off + 3, none⟩ = some (.string ((rd_T31 l0_6 x5_1).f3)) ∧ w'.cell? ⟨(ad171.add ((x5_1).toNat * 7)).block, (ad171.add ((x5_1).toNat * 7)).off + 4, none⟩ = some (.string ((rd_T31 l0_6 x5_1).f4.f0)) ∧ w'.cell? ⟨(ad171.add ((x5_1).toNat * 7)).block, (ad171.add ((x5_1).toNat * 7)).off + 5, none⟩ = some (.string ((rd_T31 l0_6 x5_1).f4.f1)) ∧ w'.cell? ⟨(ad171.add ((x5_1).toNat * 7)).block, (ad171.add ((x5_1).toNat * 7)).off + 6, none⟩ = some (.slice A175_6 ((rd_T31 l0_6 x5_1).f5).length c175_6)) (ds := []) #[false, false, false, false, false, false, false, false, false, false, false] (by kernel_rfl) rfl rfl ⟨(blk_cell BK169.out 0).trans rfl, (blk_cell BK169.out 1).trans rfl, (blk_cell BK169.out 2).trans rfl, (blk_cell BK169.out 3).trans rfl, (blk_cell BK169.out 4).trans rfl, (blk_cell BK169.out 5).trans rfl, (blk_cell BK169.out 6).trans rfl, (blk_cell BK168.out 0).trans rfl, (blk_cell BK168.out 1).trans rfl, (blk_cell BK168.out 2).trans rfl, (blk_cell BK168.out 3).trans rfl, (blk_cell BK168.out 4).trans rfl, (blk_cell BK168.out 5).trans rfl, (blk_cell BK168.out 6).trans rfl, ((hbc HB.out hw174_0 :)), ((hbc HB.out hw174_1 :)), ((hbc HB.out hw174_2 :)), ((hbc HB.out hw174_3 :)), ((hbc HB.out hw174_4 :)), ((hbc HB.out hw174_5 :)), ((hbc HB.out hw174_6 :)), ((hbc HB.out hw175_0 :)), ((hbc HB.out hw175_1 :)), ((hbc HB.out hw175_2 :)), ((hbc HB.out hw175_3 :)), ((hbc HB.out hw175_4 :)), ((hbc HB.out hw175_5 :)), ((hbc HB.out hw175_6 :))⟩ (fun hHeld => ?_); refine with_tabW chancelref3_Less.tab17 chancelref3_Less.bits17 (fun HT_ HW_ => ?_)
                generalize w63.drew = w64 at BK168 BK169 HB HR174_6 HR175_6 hx174_0 hx174_1 hx174_2 hx174_3 hx174_4 hx174_5 hx174_6 hx175_0 hx175_1 hx175_2 hx175_3 hx175_4 hx175_5 hx175_6 hHeld ⊢
                refine pS_ 0 73 (fa 11 1) HT_ ?_
                refine pS_ 2 75 (fa 11 5) HT_ ?_
                refine pS_ 5 78 (fa 11 37) HT_ ?_
                refine pS_ 7 80 (fa 11 165) HT_ ?_
                refine tS_ 1 74 (fa 11 167) HT_ HW_ hHeld ?_
                refine pS_ 3 76 (fa 11 175) HT_ ?_
                refine tS_ 4 77 (fa 11 191) HT_ HW_ hHeld ?_
                refine tS_ 6 79 (fa 11 255) HT_ HW_ hHeld ?_
                refine pS_ 8 81 (fa 11 511) HT_ ?_
                refine tS_ 9 82 (fa 11 1023) HT_ HW_ hHeld ?_
                refine one_ (i := 10) (N := some 83) #[true, true, true, true, true, true, true, true, true, true, true] rfl rfl (one_of HT_.out (by kernel_rfl)) (by decide) (fun K hK => ?_)
                refine goes_ Try.func119 (by kernel_rfl) rfl #[.agg #[.int .i64 ((rd_T31 l1_6 x5_1).f0), .bool ((rd_T31 l1_6 x5_1).f1), .int .i64 ((rd_T31 l1_6 x5_1).f2), .string ((rd_T31 l1_6 x5_1).f3), .string ((rd_T31 l1_6 x5_1).f4.f0), .string ((rd_T31 l1_6 x5_1).f4.f1), .slice A174_6 ((rd_T31 l1_6 x5_1).f5).length c174_6], .agg #[.int .i64 ((rd_T31 l0_6 x5_1).f0), .bool ((rd_T31 l0_6 x5_1).f1), .int .i64 ((rd_T31 l0_6 x5_1).f2), .string ((rd_T31 l0_6 x5_1).f3), .string ((rd_T31 l0_6 x5_1).f4.f0), .string ((rd_T31 l0_6 x5_1).f4.f1), .slice A175_6 ((rd_T31 l0_6 x5_1).f5).length c175_6]] (by rfl) rfl rfl gm_ ?_
                with_reducible refine (ih kj40 (by have := HK1.out; have := HJ40.out; omega) ((rd_T31 l1_6 x5_1).f0) ((rd_T31 l1_6 x5_1).f1) ((rd_T31 l1_6 x5_1).f2) ((rd_T31 l1_6 x5_1).f3) ((rd_T31 l1_6 x5_1).f4.f0) ((rd_T31 l1_6 x5_1).f4.f1) _ _ ((rd_T31 l1_6 x5_1).f5) ((rd_T31 l0_6 x5_1).f0) ((rd_T31 l0_6 x5_1).f1) ((rd_T31 l0_6 x5_1).f2) ((rd_T31 l0_6 x5_1).f3) ((rd_T31 l0_6 x5_1).f4.f0) ((rd_T31 l0_6 x5_1).f4.f1) _ _ ((rd_T31 l0_6 x5_1).f5) false _ ?side1 ?side2 ?side3 ?side4 A56.out).mono ?_
                (case side1 => exact kC (Kd.C_below HR174_6.out HB.out))
                (case side2 => exact HC174_6.out)
                (case side3 => exact kC (Kd.C_below HR175_6.out HB.out))
                (case side4 => exact HC175_6.out)
                rintro e w65 ⟨rfl, hb⟩
                refine ⟨_, rfl, ?_⟩
                replace BK168 := aZ_ (blk_below (g := gb168) (o := .cells #[.int .i64 a0_0, .bool a0_1, .int .i64 a0_2, .string a0_3, .string a0_4, .string a0_5, .slice (some ad171) l0_6.length c0_6] 31 (0, 0)) (bk BK168) hb)
                replace BK169 := aZ_ (blk_below (g := gb169) (o := .cells #[.int .i64 a1_0, .bool a1_1, .int .i64 a1_2, .string a1_3, .string a1_4, .string a1_5, .slice (some ad172) l1_6.length c1_6] 31 (0, 0)) (bk BK169) hb)
                replace HB := aZ_ (below_step (bl2 HB GE168 GE169) hb)
                (try clear hb)
                (try clear hb2)
                (try clear hk)
                (try clear hi)
                refine hK.out _ _ ⟨(blk_cell BK169.out 0).trans rfl, (blk_cell BK169.out 1).trans rfl, (blk_cell BK169.out 2).trans rfl, (blk_cell BK169.out 3).trans rfl, (blk_cell BK169.out 4).trans rfl, (blk_cell BK169.out 5).trans rfl, (blk_cell BK169.out 6).trans rfl, (blk_cell BK168.out 0).trans rfl, (blk_cell BK168.out 1).trans rfl, (blk_cell BK168.out 2).trans rfl, (blk_cell BK168.out 3).trans rfl, (blk_cell BK168.out 4).trans rfl, (blk_cell BK168.out 5).trans rfl, (blk_cell BK168.out 6).trans rfl, ((hbc HB.out hw174_0 :)), ((hbc HB.out hw174_1 :)), ((hbc HB.out hw174_2 :)), ((hbc HB.out hw174_3 :)), ((hbc HB.out hw174_4 :)), ((hbc HB.out hw174_5 :)), ((hbc HB.out hw174_6 :)), ((hbc HB.out hw175_0 :)), ((hbc HB.out hw175_1 :)), ((hbc HB.out hw175_2 :)), ((hbc HB.out hw175_3 :)), ((hbc HB.out hw175_4 :)), ((hbc HB.out hw175_5 :)), ((hbc HB.out hw175_6 :))⟩ (fun hHeld => ?_)
                clear hK K
                refine norm_ (a' := ?_) ?_ ?_
                rotate_left
                ·
                 show Act.put _ (some 83) _ = _
                 simp only [Act.put, List.setIfInBounds_toArray, List.set_cons_zero, List.set_cons_succ, i64_w, i32_w]
                 rfl
                refine done_ (done_of HT_.out (by kernel_rfl)) ?_
                try go_wp2
                go_roundg kj40
                case measure => have := HK1.out; have := HJ40.out; omega
                case rel => exact ⟨(wrap64 (x5_1 + 1)), rf_, H', ⟨by have := HK1.out; have := HJ40.out; omega⟩, ⟨bk BK168⟩, ⟨bk BK169⟩, ⟨bl2 HB GE168 GE169⟩⟩
             ·
              rw [if_neg c51] at H
              exact absurd H (by simp)
            ·
             rw [if_neg c50] at H
             exact absurd H (by simp)
           ·
            rw [if_neg c49] at H
            exact absurd H (by simp)
          ·
           replace c48 := Bool.eq_false_iff.mpr c48
           subst c48
           have H1 : (some (decide ((l0_6.length : Int) < (l1_6.length : Int)))) = some r := by rw [if_neg (show ¬ (false = true) by decide)] at H; exact H
           clear H
           have H := H1
           clear H1
           obtain rfl := Option.some.inj H
           have hnb66 := NB168_169.out
           have hnc66 := NB169_168.out
           obtain ⟨hcz67_0, hcz67_1, hcz67_2, hcz67_3, hcz67_4, hcz67_5, hcz67_6, hfz67_0, hfz67_1, hfz67_2, hfz67_3, hfz67_4, hfz67_5, hfz67_6⟩ := bc7 BK168
           obtain ⟨hcz68_0, hcz68_1, hcz68_2, hcz68_3, hcz68_4, hcz68_5, hcz68_6, hfz68_0, hfz68_1, hfz68_2, hfz68_3, hfz68_4, hfz68_5, hfz68_6⟩ := bc7 BK169
           go_wp2
           go_ret
           exact ⟨by first | rfl | (simp [errW_none, errW_some] <;> rfl) | (simp [*, errW_none, errW_some] <;> rfl), bl2 HB GE168 GE169⟩
 ·
  rw [if_neg c3] at H
  have c3b0 : (a0_0 == a1_0) = false := beq_eq_false_iff_ne.mpr c3
  have c3b1 : (a0_0 != a1_0) = true := bne_iff_ne.mpr c3
  obtain rfl := Option.some.inj H
  go_enter Try.func119, Try.ntmps119
  go_wp2_with (first | ((with_reducible refine gate_dst (N := 2) rfl ?_); (try (refine gate_guard (by rfl) ?_; dsimp only)); refine bxE 2 #[.int .i64 a0_0, .bool a0_1, .int .i64 a0_2, .string a0_3, .string a0_4, .string a0_5, .slice A0_6 l0_6.length c0_6] 31 ?_; intro gb168 hg w69 hbox hb; have BK168 := aZ_ (hbox); have GW168 := aZ_ ((by rw [hg]; exact (below_size (bl HB)) : w.heap.size ≤ gb168)); have GE168 := aZ_ ((by rw [hg]; exact (below_size (bl HB)) : w.heap.size ≤ gb168)); replace HB := aZ_ (below_step (bl HB) hb); clear hb hbox hg) | ((with_reducible refine gate_dst (N := 3) rfl ?_); (try (refine gate_guard (by rfl) ?_; dsimp only)); refine bxE 3 #[.int .i64 a1_0, .bool a1_1, .int .i64 a1_2, .string a1_3, .string a1_4, .string a1_5, .slice A1_6 l1_6.length c1_6] 31 ?_; intro gb169 hg w70 hbox hb; have BK169 := aZ_ (hbox); have GW169 := aZ_ ((by rw [hg]; exact (below_size (bl1 HB GE168)) : w.heap.size ≤ gb169)); have GE169 := aZ_ ((by rw [hg]; exact (below_size (bl1 HB GE168)) : w.heap.size ≤ gb169)); replace HB := aZ_ (below_step (bl1 HB GE168) hb); have NB168_169 := aZ_ ((by rw [hg]; exact Nat.ne_of_lt (blk_lt (g := gb168) (o := .cells #[.int .i64 a0_0, .bool a0_1, .int .i64 a0_2, .string a0_3, .string a0_4, .string a0_5, .slice A0_6 l0_6.length c0_6] 31 (0, 0)) (bk BK168)) : gb168 ≠ gb169)); have NB169_168 := aZ_ ((by rw [hg]; exact Nat.ne_of_gt (blk_lt (g := gb168) (o := .cells #[.int .i64 a0_0, .bool a0_1, .int .i64 a0_2, .string a0_3, .string a0_4, .string a0_5, .slice A0_6 l0_6.length c0_6] 31 (0, 0)) (bk BK168)) : gb169 ≠ gb168)); replace BK168 := aZ_ (blk_below (g := gb168) (o := .cells #[.int .i64 a0_0, .bool a0_1, .int .i64 a0_2, .string a0_3, .string a0_4, .string a0_5, .slice A0_6 l0_6.length c0_6] 31 (0, 0)) (bk BK168) hb); clear hb hbox hg; have hnb71 := NB168_169.out; have hnc71 := NB169_168.out; obtain ⟨hcz72_0, hcz72_1, hcz72_2, hcz72_3, hcz72_4, hcz72_5, hcz72_6, hfz72_0, hfz72_1, hfz72_2, hfz72_3, hfz72_4, hfz72_5, hfz72_6⟩ := bc7 BK168; obtain ⟨hcz73_0, hcz73_1, hcz73_2, hcz73_3, hcz73_4, hcz73_5, hcz73_6, hfz73_0, hfz73_1, hfz73_2, hfz73_3, hfz73_4, hfz73_5, hfz73_6⟩ := bc7 BK169))
  go_ret
  exact ⟨by first | rfl | (simp [errW_none, errW_some] <;> rfl) | (simp [*, errW_none, errW_some] <;> rfl), bl2 HB GE168 GE169⟩

end Go.Proofs.Ytfmghijmcgkpiaa.GO
