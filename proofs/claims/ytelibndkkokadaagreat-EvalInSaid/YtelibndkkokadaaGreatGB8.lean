-- Written by wip/tools/gprint.py over the kit's printer.
import Derived.Test.YtelibndkkokadaaGreatGB0
import Derived.Test.YtelibndkkokadaaGreatGB1
import Derived.Test.YtelibndkkokadaaGreatSqz
namespace Go.Proofs.YtelibndkkokadaaGreat.GB
open Go.RowKit Go.Proofs.YtelibndkkokadaaGreatW.PrintWords Go.Proofs.YtelibndkkokadaaGreatW.PrintLast Go.Proofs.YtelibndkkokadaaGreat.HandV Go.Proofs.YtelibndkkokadaaGreatW.PrintMore
attribute [local go_sem] max2_int min2_int max_two min_two max_three min_three max_four min_four   -- for this text's walks alone
set_option linter.unusedVariables false
set_option linter.unusedSimpArgs false

attribute [local go_sem high] eqA28
/-! ### chancelref9_has: function 19 -/
def chancelref9_has.l0 : Nat → List (S28) → Int → ByteArray → ByteArray → Option (Bool)
 | 0, _, _, _, _ => none
 | k + 1, x0, x5, x317000, x317001 => if x5 < (x0.length : Int) then (if 0 ≤ x5 then (if ((((rd_T28 x0 x5).f0).toList) == x317000.toList && ((((rd_T28 x0 x5).f1).toList) == x317001.toList)) = true then (some true) else (chancelref9_has.l0 k x0 (wrap64 (x5 + 1)) x317000 x317001)) else (none)) else (some false)
def chancelref9_has.f (k : Nat) (l0 : List (S28)) (a1_0 : ByteArray) (a1_1 : ByteArray) : Option (Bool) := chancelref9_has.l0 k l0 0 a1_0 a1_1
theorem chancelref9_has.mono_l : ∀ k, (∀ y0 y1 y2 y3, LeO (chancelref9_has.l0 k y0 y1 y2 y3) (chancelref9_has.l0 (k + 1) y0 y1 y2 y3))
 | 0 => fun _ _ _ _ r h => by simp [chancelref9_has.l0] at h
 | k + 1 => by
  have ih0 := chancelref9_has.mono_l k
  ·
   intro y0 y1 y2 y3
   unfold chancelref9_has.l0
   repeat' first
   | (with_reducible exact ih0 _ _ _ _)
   | (with_reducible exact LeO.refl _)
   | (with_reducible exact LeO.none _)
   | (with_reducible refine LeO.ite ?_ ?_)
   | (with_reducible refine LeO.bind ?_ (fun _ => ?_))
   | exact ih0 _ _ _ _
   | exact LeO.none _
   | refine LeO.ite ?_ ?_
   | refine LeO.bind ?_ (fun _ => ?_)
theorem chancelref9_has.mono : ∀ a0 a1 a2 k, LeO (chancelref9_has.f k a0 a1 a2) (chancelref9_has.f (k + 1) a0 a1 a2) := by
 intro a0 a1 a2 k
 have ih0 := chancelref9_has.mono_l k
 unfold chancelref9_has.f
 repeat' first
   | (with_reducible exact ih0 _ _ _ _)
   | (with_reducible exact LeO.refl _)
   | (with_reducible exact LeO.none _)
   | (with_reducible refine LeO.ite ?_ ?_)
   | (with_reducible refine LeO.bind ?_ (fun _ => ?_))
   | exact ih0 _ _ _ _
   | exact LeO.none _
   | refine LeO.ite ?_ ?_
   | refine LeO.bind ?_ (fun _ => ?_)
set_option maxHeartbeats 8000000 in
set_option maxRecDepth 100000 in
theorem chancelref9_has.calls (k : Nat) (A0 : Option Addr) (c0 : Nat) (l0 : List (S28)) (a1_0 : ByteArray) (a1_1 : ByteArray) (r : Bool) (w : World) (hr0 : Kd.C k28 w A0 l0.length l0) (hc0 : l0.length ≤ c0) (h : chancelref9_has.f k l0 a1_0 a1_1 = some r) :
  Calls Tryz.prog 19 #[.slice A0 l0.length c0, .agg #[.string a1_0, .string a1_1]] w fun e w' => e = .returned (.bool r) ∧ Below w.heap.size w w' := by
 have hu28 := Tryz.underlying28
 have HR0 := aZ_ hr0
 have HC0 := aZ_ hc0
 clear hr0 hc0
 have HB := aZ_ (Below.refl w.heap.size w)
 have H : (chancelref9_has.l0 k l0 0 a1_0 a1_1) = some r := h
 clear h
 have H' := aZ_ H
 clear H
 go_enter Tryz.func19, Tryz.ntmps19
 go_wp2_with (first | ((with_reducible refine gate_dst (N := 3) rfl ?_); refine bxE 3 #[.string a1_0, .string a1_1] 28 ?_; intro gb316 hg w3 hbox hb; have BK316 := aZ_ (hbox); have GW316 := aZ_ ((by rw [hg]; exact (below_size (bl HB)) : w.heap.size ≤ gb316)); have GE316 := aZ_ ((by rw [hg]; exact (below_size (bl HB)) : w.heap.size ≤ gb316)); replace HB := aZ_ (below_step (bl HB) hb); clear hb hbox hg))
 repeat (go_quiet (first | ((with_reducible refine gate_dst (N := 3) rfl ?_); refine bxE 3 #[.string a1_0, .string a1_1] 28 ?_; intro gb316 hg w3 hbox hb; have BK316 := aZ_ (hbox); have GW316 := aZ_ ((by rw [hg]; exact (below_size (bl HB)) : w.heap.size ≤ gb316)); have GE316 := aZ_ ((by rw [hg]; exact (below_size (bl HB)) : w.heap.size ≤ gb316)); replace HB := aZ_ (below_step (bl HB) hb); clear hb hbox hg)); try go_wp2_with (first | ((with_reducible refine gate_dst (N := 3) rfl ?_); refine bxE 3 #[.string a1_0, .string a1_1] 28 ?_; intro gb316 hg w3 hbox hb; have BK316 := aZ_ (hbox); have GW316 := aZ_ ((by rw [hg]; exact (below_size (bl HB)) : w.heap.size ≤ gb316)); have GE316 := aZ_ ((by rw [hg]; exact (below_size (bl HB)) : w.heap.size ≤ gb316)); replace HB := aZ_ (below_step (bl HB) hb); clear hb hbox hg)))
 go_loopg [5] k (fun kq v5 w' => ∃ (x5_1 : Int), v5 = .int .i64 x5_1 ∧ Aside0 (chancelref9_has.l0 kq l0 x5_1 a1_0 a1_1 = some r) ∧ Aside0 (kq ≤ k) ∧ Aside0 (w'.heap[gb316]? = some (.cells #[.string a1_0, .string a1_1] 28 (0, 0))) ∧ Aside0 (Below w.heap.size w w'))
 case atStart => exact ⟨(0), rf_, H', ⟨Nat.le_refl _⟩, ⟨bk BK316⟩, ⟨bl1 HB GE316⟩⟩
 case round =>
  clear H'
  try clear c1
  try clear p2
  obtain ⟨x5_1, rfl, HA, HK1, BK316, HB⟩ := hrel
  cases gk with
  | zero => exact absurd HA.out (by simp [chancelref9_has.l0])
  | succ k1 =>
   have H := HA.out
   clear HA
   simp only [chancelref9_has.l0] at H
   by_cases c4 : x5_1 < (l0.length : Int)
   ·
    rw [if_pos c4] at H
    have c4b0 : decide (x5_1 < (l0.length : Int)) = true := decide_eq_true c4
    clear c4
    by_cases c5 : 0 ≤ x5_1
    ·
     rw [if_pos c5] at H
     have c5b0 : decide (0 ≤ x5_1) = true := decide_eq_true c5
     clear c5
     by_cases c6 : ((((rd_T28 l0 x5_1).f0).toList) == a1_0.toList && ((((rd_T28 l0 x5_1).f1).toList) == a1_1.toList)) = true
     ·
      rw [if_pos c6] at H
      have c6b0 : ((((rd_T28 l0 x5_1).f0).toList) == a1_0.toList && ((((rd_T28 l0 x5_1).f1).toList) == a1_1.toList)) = true := c6
      (try (have c6b1 : decide ((((rd_T28 l0 x5_1).f0).toList) = a1_0.toList && ((((rd_T28 l0 x5_1).f1).toList) == a1_1.toList)) = true := by simpa using c6))
      (try (have c6b2 : ((((rd_T28 l0 x5_1).f0).toList) == a1_0.toList && ((((rd_T28 l0 x5_1).f1).toList) == a1_1.toList)) = true := by simpa using c6))
      clear c6
      obtain rfl := Option.some.inj H
      have p317 : 0 ≤ (x5_1 : Int) := of_decide_eq_true asm_
      have q317 : x5_1 < (l0.length : Int) := of_decide_eq_true asm_
      obtain ⟨ad317, e317, hx317_0, hx317_1⟩ := at_T28 HR0.out x5_1 p317 q317
      cases e317
      replace hx317_0 := (hbc HB.out hx317_0 :)
      replace hx317_1 := (hbc HB.out hx317_1 :)
      replace p317 := eq_true p317
      replace q317 := eq_true q317
      obtain ⟨hcz7_0, hcz7_1, hfz7_0, hfz7_1⟩ := bc2 BK316
      go_wp2
      repeat (go_quiet (fail); try go_wp2)
      go_ret
      exact ⟨by first | rfl | (simp [errW_none, errW_some] <;> rfl) | (simp [*, errW_none, errW_some] <;> rfl), bl1 HB GE316⟩
     ·
      rw [if_neg c6] at H
      have c6b0 : ((((rd_T28 l0 x5_1).f0).toList) == a1_0.toList && ((((rd_T28 l0 x5_1).f1).toList) == a1_1.toList)) = false := by simpa using c6
      (try (have c6b1 : decide ((((rd_T28 l0 x5_1).f0).toList) = a1_0.toList && ((((rd_T28 l0 x5_1).f1).toList) == a1_1.toList)) = false := by simpa using c6))
      (try (have c6b2 : ((((rd_T28 l0 x5_1).f0).toList) == a1_0.toList && ((((rd_T28 l0 x5_1).f1).toList) == a1_1.toList)) = false := by simpa using c6))
      (try (have c6b3 : ¬ ((((rd_T28 l0 x5_1).f0).toList) = a1_0.toList && ((((rd_T28 l0 x5_1).f1).toList) == a1_1.toList)) := by simpa using c6))
      clear c6
      have H' := aZ_ H
      clear H
      have p317 : 0 ≤ (x5_1 : Int) := of_decide_eq_true asm_
      have q317 : x5_1 < (l0.length : Int) := of_decide_eq_true asm_
      obtain ⟨ad317, e317, hx317_0, hx317_1⟩ := at_T28 HR0.out x5_1 p317 q317
      cases e317
      replace hx317_0 := (hbc HB.out hx317_0 :)
      replace hx317_1 := (hbc HB.out hx317_1 :)
      replace p317 := eq_true p317
      replace q317 := eq_true q317
      obtain ⟨hcz8_0, hcz8_1, hfz8_0, hfz8_1⟩ := bc2 BK316
      go_wp2
      repeat (go_quiet (fail); try go_wp2)
      go_roundg k1
      case measure => have := HK1.out; omega
      case rel => exact ⟨(wrap64 (x5_1 + 1)), rf_, H', ⟨by have := HK1.out; omega⟩, ⟨bk BK316⟩, ⟨bl1 HB GE316⟩⟩
    ·
     rw [if_neg c5] at H
     exact absurd H (by simp)
   ·
    rw [if_neg c4] at H
    have c4b0 : decide (x5_1 < (l0.length : Int)) = false := decide_eq_false c4
    clear c4
    obtain rfl := Option.some.inj H
    go_wp2
    repeat (go_quiet (fail); try go_wp2)
    go_ret
    exact ⟨by first | rfl | (simp [errW_none, errW_some] <;> rfl) | (simp [*, errW_none, errW_some] <;> rfl), bl1 HB GE316⟩

/-! ### chancelref8_Find: function 36 -/
def chancelref8_Find.l0 : Nat → List (S32) → Int → ByteArray → ByteArray → Option (ByteArray × ByteArray × (List (S28)) × (List (S67)) × Bool)
 | 0, _, _, _, _ => none
 | k + 1, x0, x6, x319000, x319001 => if x6 < (x0.length : Int) then (if 0 ≤ x6 then (if ((((rd_T32 x0 x6).f0.f0).toList) == x319000.toList && ((((rd_T32 x0 x6).f0.f1).toList) == x319001.toList)) = true then (some ((rd_T32 x0 x6).f0.f0, (rd_T32 x0 x6).f0.f1, (rd_T32 x0 x6).f1, (rd_T32 x0 x6).f2, true)) else (chancelref8_Find.l0 k x0 (wrap64 (x6 + 1)) x319000 x319001)) else (none)) else (some ((⟨#[]⟩ : ByteArray), (⟨#[]⟩ : ByteArray), ([] : List (S28)), ([] : List (S67)), false))
def chancelref8_Find.f (k : Nat) (l0 : List (S32)) (a1_0 : ByteArray) (a1_1 : ByteArray) : Option (ByteArray × ByteArray × (List (S28)) × (List (S67)) × Bool) := chancelref8_Find.l0 k l0 0 a1_0 a1_1
theorem chancelref8_Find.mono_l : ∀ k, (∀ y0 y1 y2 y3, LeO (chancelref8_Find.l0 k y0 y1 y2 y3) (chancelref8_Find.l0 (k + 1) y0 y1 y2 y3))
 | 0 => fun _ _ _ _ r h => by simp [chancelref8_Find.l0] at h
 | k + 1 => by
  have ih0 := chancelref8_Find.mono_l k
  ·
   intro y0 y1 y2 y3
   unfold chancelref8_Find.l0
   repeat' first
   | (with_reducible exact ih0 _ _ _ _)
   | (with_reducible exact LeO.refl _)
   | (with_reducible exact LeO.none _)
   | (with_reducible refine LeO.ite ?_ ?_)
   | (with_reducible refine LeO.bind ?_ (fun _ => ?_))
   | exact ih0 _ _ _ _
   | exact LeO.none _
   | refine LeO.ite ?_ ?_
   | refine LeO.bind ?_ (fun _ => ?_)
theorem chancelref8_Find.mono : ∀ a0 a1 a2 k, LeO (chancelref8_Find.f k a0 a1 a2) (chancelref8_Find.f (k + 1) a0 a1 a2) := by
 intro a0 a1 a2 k
 have ih0 := chancelref8_Find.mono_l k
 unfold chancelref8_Find.f
 repeat' first
   | (with_reducible exact ih0 _ _ _ _)
   | (with_reducible exact LeO.refl _)
   | (with_reducible exact LeO.none _)
   | (with_reducible refine LeO.ite ?_ ?_)
   | (with_reducible refine LeO.bind ?_ (fun _ => ?_))
   | exact ih0 _ _ _ _
   | exact LeO.none _
   | refine LeO.ite ?_ ?_
   | refine LeO.bind ?_ (fun _ => ?_)
set_option maxHeartbeats 8000000 in
set_option maxRecDepth 100000 in
theorem chancelref8_Find.calls (k : Nat) (P0_ : Nat → Prop) (A0 : Option Addr) (c0 : Nat) (l0 : List (S32)) (a1_0 : ByteArray) (a1_1 : ByteArray) (r1 : ByteArray) (r2 : ByteArray) (r3 : List (S28)) (r4 : List (S67)) (r5 : Bool) (w : World) (hs0 : Kd.V k32 32 w w.heap.size (fun k_ => P0_ k_) (.slice A0 l0.length c0) l0) (h : chancelref8_Find.f k l0 a1_0 a1_1 = some (r1, r2, r3, r4, r5)) :
  Calls Tryz.prog 36 #[.slice A0 l0.length c0, .agg #[.string a1_0, .string a1_1]] w fun e w' => ∃ v2_ v3_ : Value, e = .returned (.tuple #[.agg #[.string r1, .string r2, v2_, v3_], .bool r5]) ∧ Kd.V k28 28 w' w.heap.size (fun k_ => (P0_ k_ ∨ w.heap.size ≤ k_)) v2_ r3 ∧ Kd.V k67 67 w' w.heap.size (fun k_ => (P0_ k_ ∨ w.heap.size ≤ k_)) v3_ r4 ∧ Below w.heap.size w w' := by
 have hu28 := Tryz.underlying28
 have hu32 := Tryz.underlying32
 have HO0 := aZ_ (show Kd.V k32 32 w w.heap.size (fun k_ => (P0_ k_ ∨ w.heap.size ≤ k_)) (.slice A0 l0.length c0) l0 from Kd.V_mono hs0 (fun k_ hk => .inl hk))
 have HB := aZ_ (Below.refl w.heap.size w)
 have H : (chancelref8_Find.l0 k l0 0 a1_0 a1_1) = some (r1, r2, r3, r4, r5) := h
 clear h
 have H' := aZ_ H
 clear H
 go_enter Tryz.func36, Tryz.ntmps36
 go_wp2_with (first | ((with_reducible refine gate_dst (N := 3) rfl ?_); refine bxE 3 #[.string a1_0, .string a1_1] 28 ?_; intro gb318 hg w3 hbox hb; replace HO0 := aZ_ (Kd.V_below (Kd.V_elderB (kV HO0) gb318 (Nat.le_of_eq hg.symm)) hb); have BK318 := aZ_ (hbox); have GW318 := aZ_ ((by rw [hg]; exact (below_size (bl HB)) : w.heap.size ≤ gb318)); have GE318 := aZ_ ((by rw [hg]; exact (below_size (bl HB)) : w.heap.size ≤ gb318)); replace HB := aZ_ (below_step (bl HB) hb); clear hb hbox hg) | ((with_reducible refine gate_dst (N := 4) rfl ?_); refine bxE 4 #[.string (⟨#[]⟩ : ByteArray), .string (⟨#[]⟩ : ByteArray), .slice none 0 0, .slice none 0 0] 32 ?_; intro gb319 hg w4 hbox hb; replace HO0 := aZ_ (Kd.V_below (Kd.V_elderB (kV HO0) gb319 (Nat.le_of_eq hg.symm)) hb); have BK319 := aZ_ (hbox); have GW319 := aZ_ ((by rw [hg]; exact (below_size (bl1 HB GE318)) : w.heap.size ≤ gb319)); have GE319 := aZ_ ((by rw [hg]; exact (below_size (bl1 HB GE318)) : w.heap.size ≤ gb319)); replace HB := aZ_ (below_step (bl1 HB GE318) hb); have NB318_319 := aZ_ ((by rw [hg]; exact Nat.ne_of_lt (blk_lt (g := gb318) (o := .cells #[.string a1_0, .string a1_1] 28 (0, 0)) (bk BK318)) : gb318 ≠ gb319)); have NB319_318 := aZ_ ((by rw [hg]; exact Nat.ne_of_gt (blk_lt (g := gb318) (o := .cells #[.string a1_0, .string a1_1] 28 (0, 0)) (bk BK318)) : gb319 ≠ gb318)); replace BK318 := aZ_ (blk_below (g := gb318) (o := .cells #[.string a1_0, .string a1_1] 28 (0, 0)) (bk BK318) hb); clear hb hbox hg))
 repeat (go_quiet (first | ((with_reducible refine gate_dst (N := 3) rfl ?_); refine bxE 3 #[.string a1_0, .string a1_1] 28 ?_; intro gb318 hg w3 hbox hb; replace HO0 := aZ_ (Kd.V_below (Kd.V_elderB (kV HO0) gb318 (Nat.le_of_eq hg.symm)) hb); have BK318 := aZ_ (hbox); have GW318 := aZ_ ((by rw [hg]; exact (below_size (bl HB)) : w.heap.size ≤ gb318)); have GE318 := aZ_ ((by rw [hg]; exact (below_size (bl HB)) : w.heap.size ≤ gb318)); replace HB := aZ_ (below_step (bl HB) hb); clear hb hbox hg) | ((with_reducible refine gate_dst (N := 4) rfl ?_); refine bxE 4 #[.string (⟨#[]⟩ : ByteArray), .string (⟨#[]⟩ : ByteArray), .slice none 0 0, .slice none 0 0] 32 ?_; intro gb319 hg w4 hbox hb; replace HO0 := aZ_ (Kd.V_below (Kd.V_elderB (kV HO0) gb319 (Nat.le_of_eq hg.symm)) hb); have BK319 := aZ_ (hbox); have GW319 := aZ_ ((by rw [hg]; exact (below_size (bl1 HB GE318)) : w.heap.size ≤ gb319)); have GE319 := aZ_ ((by rw [hg]; exact (below_size (bl1 HB GE318)) : w.heap.size ≤ gb319)); replace HB := aZ_ (below_step (bl1 HB GE318) hb); have NB318_319 := aZ_ ((by rw [hg]; exact Nat.ne_of_lt (blk_lt (g := gb318) (o := .cells #[.string a1_0, .string a1_1] 28 (0, 0)) (bk BK318)) : gb318 ≠ gb319)); have NB319_318 := aZ_ ((by rw [hg]; exact Nat.ne_of_gt (blk_lt (g := gb318) (o := .cells #[.string a1_0, .string a1_1] 28 (0, 0)) (bk BK318)) : gb319 ≠ gb318)); replace BK318 := aZ_ (blk_below (g := gb318) (o := .cells #[.string a1_0, .string a1_1] 28 (0, 0)) (bk BK318) hb); clear hb hbox hg)); try go_wp2_with (first | ((with_reducible refine gate_dst (N := 3) rfl ?_); refine bxE 3 #[.string a1_0, .string a1_1] 28 ?_; intro gb318 hg w3 hbox hb; replace HO0 := aZ_ (Kd.V_below (Kd.V_elderB (kV HO0) gb318 (Nat.le_of_eq hg.symm)) hb); have BK318 := aZ_ (hbox); have GW318 := aZ_ ((by rw [hg]; exact (below_size (bl HB)) : w.heap.size ≤ gb318)); have GE318 := aZ_ ((by rw [hg]; exact (below_size (bl HB)) : w.heap.size ≤ gb318)); replace HB := aZ_ (below_step (bl HB) hb); clear hb hbox hg) | ((with_reducible refine gate_dst (N := 4) rfl ?_); refine bxE 4 #[.string (⟨#[]⟩ : ByteArray), .string (⟨#[]⟩ : ByteArray), .slice none 0 0, .slice none 0 0] 32 ?_; intro gb319 hg w4 hbox hb; replace HO0 := aZ_ (Kd.V_below (Kd.V_elderB (kV HO0) gb319 (Nat.le_of_eq hg.symm)) hb); have BK319 := aZ_ (hbox); have GW319 := aZ_ ((by rw [hg]; exact (below_size (bl1 HB GE318)) : w.heap.size ≤ gb319)); have GE319 := aZ_ ((by rw [hg]; exact (below_size (bl1 HB GE318)) : w.heap.size ≤ gb319)); replace HB := aZ_ (below_step (bl1 HB GE318) hb); have NB318_319 := aZ_ ((by rw [hg]; exact Nat.ne_of_lt (blk_lt (g := gb318) (o := .cells #[.string a1_0, .string a1_1] 28 (0, 0)) (bk BK318)) : gb318 ≠ gb319)); have NB319_318 := aZ_ ((by rw [hg]; exact Nat.ne_of_gt (blk_lt (g := gb318) (o := .cells #[.string a1_0, .string a1_1] 28 (0, 0)) (bk BK318)) : gb319 ≠ gb318)); replace BK318 := aZ_ (blk_below (g := gb318) (o := .cells #[.string a1_0, .string a1_1] 28 (0, 0)) (bk BK318) hb); clear hb hbox hg)))
 go_loopg [6] k (fun kq v6 w' => ∃ (x6_1 : Int) (x320000_1 : ByteArray) (x320001_1 : ByteArray), v6 = .int .i64 x6_1 ∧ Aside0 (chancelref8_Find.l0 kq l0 x6_1 a1_0 a1_1 = some (r1, r2, r3, r4, r5)) ∧ Aside0 (kq ≤ k) ∧ Aside0 (Kd.V k32 32 w' w.heap.size (fun k_ => (P0_ k_ ∨ w.heap.size ≤ k_) ∧ k_ ≠ gb318 ∧ k_ ≠ gb319) (.slice A0 l0.length c0) l0) ∧ Aside0 (w'.heap[gb318]? = some (.cells #[.string a1_0, .string a1_1] 28 (0, 0))) ∧ Aside0 (w'.heap[gb319]? = some (.cells #[.string x320000_1, .string x320001_1, (.slice none 0 0), (.slice none 0 0)] 32 (0, 0))) ∧ Aside0 (Below w.heap.size w w'))
 case atStart => exact ⟨(0), ((⟨#[]⟩ : ByteArray)), ((⟨#[]⟩ : ByteArray)), rf_, H', ⟨Nat.le_refl _⟩, ⟨by (with_reducible repeat (first | apply Kd.V_alloc | apply Kd.V_drewN | apply Kd.V_drew)); exact Kd.V_mono HO0.out (fun _ hk => by first | exact ⟨hk.1.1, ⟨hk.1.2, hk.2⟩⟩ | (simp only [own_nf] at hk ⊢; exact ⟨hk.1.1, ⟨hk.1.2, hk.2⟩⟩))⟩, ⟨bk BK318⟩, ⟨bk BK319⟩, ⟨bl2 HB GE318 GE319⟩⟩
 case round =>
  clear H'
  try clear p2
  try clear c3
  obtain ⟨x6_1, x320000_1, x320001_1, rfl, HA, HK1, HO_0, BK318, BK319, HB⟩ := hrel
  cases gk with
  | zero => exact absurd HA.out (by simp [chancelref8_Find.l0])
  | succ k1 =>
   have H := HA.out
   clear HA
   simp only [chancelref8_Find.l0] at H
   by_cases c5 : x6_1 < (l0.length : Int)
   ·
    rw [if_pos c5] at H
    have c5b0 : decide (x6_1 < (l0.length : Int)) = true := decide_eq_true c5
    clear c5
    by_cases c6 : 0 ≤ x6_1
    ·
     rw [if_pos c6] at H
     have c6b0 : decide (0 ≤ x6_1) = true := decide_eq_true c6
     clear c6
     by_cases c7 : ((((rd_T32 l0 x6_1).f0.f0).toList) == a1_0.toList && ((((rd_T32 l0 x6_1).f0.f1).toList) == a1_1.toList)) = true
     ·
      rw [if_pos c7] at H
      have c7b0 : ((((rd_T32 l0 x6_1).f0.f0).toList) == a1_0.toList && ((((rd_T32 l0 x6_1).f0.f1).toList) == a1_1.toList)) = true := c7
      (try (have c7b1 : decide ((((rd_T32 l0 x6_1).f0.f0).toList) = a1_0.toList && ((((rd_T32 l0 x6_1).f0.f1).toList) == a1_1.toList)) = true := by simpa using c7))
      (try (have c7b2 : ((((rd_T32 l0 x6_1).f0.f0).toList) == a1_0.toList && ((((rd_T32 l0 x6_1).f0.f1).toList) == a1_1.toList)) = true := by simpa using c7))
      clear c7
      simp only [Option.some.injEq, Prod.mk.injEq] at H
      obtain ⟨rfl, rfl, rfl, rfl, rfl⟩ := H
      have p320 : 0 ≤ (x6_1 : Int) := of_decide_eq_true asm_
      have q320 : x6_1 < (l0.length : Int) := of_decide_eq_true asm_
      obtain ⟨ad320, A320_2, c320_2, A320_3, c320_3, e320, hx320_0, hx320_1, hx320_2, hx320_3, hl320_2, hi320_2, hl320_3, hi320_3⟩ := at_T32 (Kd.V_reads' HO_0.out).2.2 x6_1 p320 q320
      cases e320
      obtain ⟨ce320, hce320, hMe320, hcc320⟩ := Kd.V_get HO_0.out z32 x6_1 p320 (by first | exact q320 | exact of_decide_eq_true asm_ | (have e_ := (Kd.V_reads' HO_0.out).1; omega))
      obtain ⟨ua320_2, uc320_2, ua320_3, uc320_3, rfl, ul320_2, ge320_2, ul320_3, ge320_3⟩ := k32_openF hMe320
      have hv320_2 := hcc320 2 _ rfl
      rw [add_field _ _ 2 (by omega)] at hv320_2
      replace hv320_2 := Option.some.inj (hv320_2.symm.trans hx320_2)
      injection hv320_2 with hva_ hvn_ hvc_
      rw [hva_] at ge320_2
      rw [hvc_] at ul320_2
      have HL320_2 := aZ_ (show Kd.V k28 28 _ w.heap.size _ _ ((rd_T32 l0 x6_1).f1) from Kd.V_mk ul320_2 ge320_2)
      clear hva_ hvn_ hvc_ ge320_2 ul320_2
      have hv320_3 := hcc320 3 _ rfl
      rw [add_field _ _ 3 (by omega)] at hv320_3
      replace hv320_3 := Option.some.inj (hv320_3.symm.trans hx320_3)
      injection hv320_3 with hva_ hvn_ hvc_
      rw [hva_] at ge320_3
      rw [hvc_] at ul320_3
      have HL320_3 := aZ_ (show Kd.V k67 67 _ w.heap.size _ _ ((rd_T32 l0 x6_1).f2) from Kd.V_mk ul320_3 ge320_3)
      clear hva_ hvn_ hvc_ ge320_3 ul320_3
      clear hcc320 hce320
      have HR320_2 := aZ_ hi320_2
      have HC320_2 := aZ_ hl320_2
      clear hi320_2 hl320_2
      have HR320_3 := aZ_ hi320_3
      have HC320_3 := aZ_ hl320_3
      clear hi320_3 hl320_3
      replace p320 := eq_true p320
      replace q320 := eq_true q320
      have hnb8 := NB318_319.out
      have hnc8 := NB319_318.out
      obtain ⟨hcz9_0, hcz9_1, hfz9_0, hfz9_1⟩ := bc2 BK318
      have p321 : 0 ≤ (x6_1 : Int) := of_decide_eq_true asm_
      have q321 : x6_1 < (l0.length : Int) := of_decide_eq_true asm_
      obtain ⟨ad321, A321_2, c321_2, A321_3, c321_3, e321, hx321_0, hx321_1, hx321_2, hx321_3, hl321_2, hi321_2, hl321_3, hi321_3⟩ := at_T32 (Kd.V_reads' HO_0.out).2.2 x6_1 p321 q321
      obtain rfl : ad320 = ad321 := (by injection e321)
      obtain ⟨ce321, hce321, hMe321, hcc321⟩ := Kd.V_get HO_0.out z32 x6_1 p321 (by first | exact q321 | exact of_decide_eq_true asm_ | (have e_ := (Kd.V_reads' HO_0.out).1; omega))
      obtain ⟨ua321_2, uc321_2, ua321_3, uc321_3, rfl, ul321_2, ge321_2, ul321_3, ge321_3⟩ := k32_openF hMe321
      have hv321_2 := hcc321 2 _ rfl
      rw [add_field _ _ 2 (by omega)] at hv321_2
      replace hv321_2 := Option.some.inj (hv321_2.symm.trans hx321_2)
      injection hv321_2 with hva_ hvn_ hvc_
      rw [hva_] at ge321_2
      rw [hvc_] at ul321_2
      have HL321_2 := aZ_ (show Kd.V k28 28 _ w.heap.size _ _ ((rd_T32 l0 x6_1).f1) from Kd.V_mk ul321_2 ge321_2)
      clear hva_ hvn_ hvc_ ge321_2 ul321_2
      have hv321_3 := hcc321 3 _ rfl
      rw [add_field _ _ 3 (by omega)] at hv321_3
      replace hv321_3 := Option.some.inj (hv321_3.symm.trans hx321_3)
      injection hv321_3 with hva_ hvn_ hvc_
      rw [hva_] at ge321_3
      rw [hvc_] at ul321_3
      have HL321_3 := aZ_ (show Kd.V k67 67 _ w.heap.size _ _ ((rd_T32 l0 x6_1).f2) from Kd.V_mk ul321_3 ge321_3)
      clear hva_ hvn_ hvc_ ge321_3 ul321_3
      clear hcc321 hce321
      have HR321_2 := aZ_ hi321_2
      have HC321_2 := aZ_ hl321_2
      clear hi321_2 hl321_2
      have HR321_3 := aZ_ hi321_3
      have HC321_3 := aZ_ hl321_3
      clear hi321_3 hl321_3
      replace p321 := eq_true p321
      replace q321 := eq_true q321
      have ea_ := Option.some.inj (hx320_2.symm.trans hx321_2)
      injection ea_ with ea_ en_ ec_
      subst ea_
      subst ec_
      clear en_
      have ea_ := Option.some.inj (hx320_3.symm.trans hx321_3)
      injection ea_ with ea_ en_ ec_
      subst ea_
      subst ec_
      clear en_
      obtain ⟨hcz10_0, hcz10_1, hcz10_2, hcz10_3, hfz10_0, hfz10_1, hfz10_2, hfz10_3⟩ := bc4 BK319
      go_wp2
      repeat (go_quiet (fail); try go_wp2)
      refine bodyPost_ret (results_ct rfl _ _ gb319 32 #[.string ((rd_T32 l0 x6_1).f0.f0), .string ((rd_T32 l0 x6_1).f0.f1), .slice A320_2 ((rd_T32 l0 x6_1).f1).length c320_2, .slice A320_3 ((rd_T32 l0 x6_1).f2).length c320_3] (0, 0) _ rfl (by (with_reducible repeat (first | refine blk_drewN ?_ _ | refine blk_drew ?_ | refine blk_alloc ?_ _)); refine blk_put (cs := #[.string ((rd_T32 l0 x6_1).f0.f0), .string ((rd_T32 l0 x6_1).f0.f1), .slice A320_2 ((rd_T32 l0 x6_1).f1).length c320_2, .slice none 0 0]) ?_ 3 _ rfl; (with_reducible repeat (first | refine blk_drewN ?_ _ | refine blk_drew ?_ | refine blk_alloc ?_ _)); refine blk_put (cs := #[.string ((rd_T32 l0 x6_1).f0.f0), .string ((rd_T32 l0 x6_1).f0.f1), .slice none 0 0, .slice none 0 0]) ?_ 2 _ rfl; (with_reducible repeat (first | refine blk_drewN ?_ _ | refine blk_drew ?_ | refine blk_alloc ?_ _)); refine blk_put (cs := #[.string ((rd_T32 l0 x6_1).f0.f0), .string x320001_1, .slice none 0 0, .slice none 0 0]) ?_ 1 _ rfl; (with_reducible repeat (first | refine blk_drewN ?_ _ | refine blk_drew ?_ | refine blk_alloc ?_ _)); refine blk_put (cs := #[.string x320000_1, .string x320001_1, .slice none 0 0, .slice none 0 0]) ?_ 0 _ rfl; (with_reducible repeat (first | refine blk_drewN ?_ _ | refine blk_drew ?_ | refine blk_alloc ?_ _)); exact BK319.out) Tryz.underlying32 rfl (by kernel_rfl)) rfl ?_
      exact ⟨_, _, by first | rfl | (simp [errW_none, errW_some] <;> rfl) | (simp [*, errW_none, errW_some] <;> rfl), by (with_reducible repeat (first | apply Kd.V_alloc | apply Kd.V_drewN | apply Kd.V_drew)); exact Kd.V_mono (Kd.V_far (p := ⟨gb319, 3, none⟩) (Kd.V_far (p := ⟨gb319, 2, none⟩) (Kd.V_far (p := ⟨gb319, 1, none⟩) (Kd.V_far (p := ⟨gb319, 0, none⟩) (Kd.V_mono HL321_2.out (fun k_ hk => (⟨hk, hk.2.2⟩ : _ ∧ k_ ≠ gb319))) (fun _ hk => hk.2) (.string ((rd_T32 l0 x6_1).f0.f0))) (fun _ hk => hk.2) (.string ((rd_T32 l0 x6_1).f0.f1))) (fun _ hk => hk.2) (.slice A320_2 ((rd_T32 l0 x6_1).f1).length c320_2)) (fun _ hk => hk.2) (.slice A320_3 ((rd_T32 l0 x6_1).f2).length c320_3)) (fun _ hk => hk.1.1), by (with_reducible repeat (first | apply Kd.V_alloc | apply Kd.V_drewN | apply Kd.V_drew)); exact Kd.V_mono (Kd.V_far (p := ⟨gb319, 3, none⟩) (Kd.V_far (p := ⟨gb319, 2, none⟩) (Kd.V_far (p := ⟨gb319, 1, none⟩) (Kd.V_far (p := ⟨gb319, 0, none⟩) (Kd.V_mono HL321_3.out (fun k_ hk => (⟨hk, hk.2.2⟩ : _ ∧ k_ ≠ gb319))) (fun _ hk => hk.2) (.string ((rd_T32 l0 x6_1).f0.f0))) (fun _ hk => hk.2) (.string ((rd_T32 l0 x6_1).f0.f1))) (fun _ hk => hk.2) (.slice A320_2 ((rd_T32 l0 x6_1).f1).length c320_2)) (fun _ hk => hk.2) (.slice A320_3 ((rd_T32 l0 x6_1).f2).length c320_3)) (fun _ hk => hk.1.1), bl2 HB GE318 GE319⟩
     ·
      rw [if_neg c7] at H
      have c7b0 : ((((rd_T32 l0 x6_1).f0.f0).toList) == a1_0.toList && ((((rd_T32 l0 x6_1).f0.f1).toList) == a1_1.toList)) = false := by simpa using c7
      (try (have c7b1 : decide ((((rd_T32 l0 x6_1).f0.f0).toList) = a1_0.toList && ((((rd_T32 l0 x6_1).f0.f1).toList) == a1_1.toList)) = false := by simpa using c7))
      (try (have c7b2 : ((((rd_T32 l0 x6_1).f0.f0).toList) == a1_0.toList && ((((rd_T32 l0 x6_1).f0.f1).toList) == a1_1.toList)) = false := by simpa using c7))
      (try (have c7b3 : ¬ ((((rd_T32 l0 x6_1).f0.f0).toList) = a1_0.toList && ((((rd_T32 l0 x6_1).f0.f1).toList) == a1_1.toList)) := by simpa using c7))
      clear c7
      have H' := aZ_ H
      clear H
      have p320 : 0 ≤ (x6_1 : Int) := of_decide_eq_true asm_
      have q320 : x6_1 < (l0.length : Int) := of_decide_eq_true asm_
      obtain ⟨ad320, A320_2, c320_2, A320_3, c320_3, e320, hx320_0, hx320_1, hx320_2, hx320_3, hl320_2, hi320_2, hl320_3, hi320_3⟩ := at_T32 (Kd.V_reads' HO_0.out).2.2 x6_1 p320 q320
      cases e320
      obtain ⟨ce320, hce320, hMe320, hcc320⟩ := Kd.V_get HO_0.out z32 x6_1 p320 (by first | exact q320 | exact of_decide_eq_true asm_ | (have e_ := (Kd.V_reads' HO_0.out).1; omega))
      obtain ⟨ua320_2, uc320_2, ua320_3, uc320_3, rfl, ul320_2, ge320_2, ul320_3, ge320_3⟩ := k32_openF hMe320
      have hv320_2 := hcc320 2 _ rfl
      rw [add_field _ _ 2 (by omega)] at hv320_2
      replace hv320_2 := Option.some.inj (hv320_2.symm.trans hx320_2)
      injection hv320_2 with hva_ hvn_ hvc_
      rw [hva_] at ge320_2
      rw [hvc_] at ul320_2
      have HL320_2 := aZ_ (show Kd.V k28 28 _ w.heap.size _ _ ((rd_T32 l0 x6_1).f1) from Kd.V_mk ul320_2 ge320_2)
      clear hva_ hvn_ hvc_ ge320_2 ul320_2
      have hv320_3 := hcc320 3 _ rfl
      rw [add_field _ _ 3 (by omega)] at hv320_3
      replace hv320_3 := Option.some.inj (hv320_3.symm.trans hx320_3)
      injection hv320_3 with hva_ hvn_ hvc_
      rw [hva_] at ge320_3
      rw [hvc_] at ul320_3
      have HL320_3 := aZ_ (show Kd.V k67 67 _ w.heap.size _ _ ((rd_T32 l0 x6_1).f2) from Kd.V_mk ul320_3 ge320_3)
      clear hva_ hvn_ hvc_ ge320_3 ul320_3
      clear hcc320 hce320
      have HR320_2 := aZ_ hi320_2
      have HC320_2 := aZ_ hl320_2
      clear hi320_2 hl320_2
      have HR320_3 := aZ_ hi320_3
      have HC320_3 := aZ_ hl320_3
      clear hi320_3 hl320_3
      replace p320 := eq_true p320
      replace q320 := eq_true q320
      have hnb11 := NB318_319.out
      have hnc11 := NB319_318.out
      obtain ⟨hcz12_0, hcz12_1, hfz12_0, hfz12_1⟩ := bc2 BK318
      go_wp2
      repeat (go_quiet (fail); try go_wp2)
      go_roundg k1
      case measure => have := HK1.out; omega
      case rel => exact ⟨(wrap64 (x6_1 + 1)), (x320000_1), (x320001_1), rf_, H', ⟨by have := HK1.out; omega⟩, ⟨kV HO_0⟩, ⟨bk BK318⟩, ⟨bk BK319⟩, ⟨bl2 HB GE318 GE319⟩⟩
    ·
     rw [if_neg c6] at H
     exact absurd H (by simp)
   ·
    rw [if_neg c5] at H
    have c5b0 : decide (x6_1 < (l0.length : Int)) = false := decide_eq_false c5
    clear c5
    simp only [Option.some.injEq, Prod.mk.injEq] at H
    obtain ⟨rfl, rfl, rfl, rfl, rfl⟩ := H
    have hnb13 := NB319_318.out
    have hnc13 := NB318_319.out
    obtain ⟨hcz14_0, hcz14_1, hcz14_2, hcz14_3, hfz14_0, hfz14_1, hfz14_2, hfz14_3⟩ := bc4 BK319
    go_wp2
    repeat (go_quiet (fail); try go_wp2)
    refine bodyPost_ret (results_ct rfl _ _ gb319 32 #[.string (⟨#[]⟩ : ByteArray), .string (⟨#[]⟩ : ByteArray), .slice none 0 0, .slice none 0 0] (0, 0) _ rfl (by (with_reducible repeat (first | refine blk_drewN ?_ _ | refine blk_drew ?_ | refine blk_alloc ?_ _)); refine blk_put (cs := #[.string (⟨#[]⟩ : ByteArray), .string (⟨#[]⟩ : ByteArray), .slice none 0 0, .slice none 0 0]) ?_ 3 _ rfl; (with_reducible repeat (first | refine blk_drewN ?_ _ | refine blk_drew ?_ | refine blk_alloc ?_ _)); refine blk_put (cs := #[.string (⟨#[]⟩ : ByteArray), .string (⟨#[]⟩ : ByteArray), .slice none 0 0, .slice none 0 0]) ?_ 2 _ rfl; (with_reducible repeat (first | refine blk_drewN ?_ _ | refine blk_drew ?_ | refine blk_alloc ?_ _)); refine blk_put (cs := #[.string (⟨#[]⟩ : ByteArray), .string x320001_1, .slice none 0 0, .slice none 0 0]) ?_ 1 _ rfl; (with_reducible repeat (first | refine blk_drewN ?_ _ | refine blk_drew ?_ | refine blk_alloc ?_ _)); refine blk_put (cs := #[.string x320000_1, .string x320001_1, .slice none 0 0, .slice none 0 0]) ?_ 0 _ rfl; (with_reducible repeat (first | refine blk_drewN ?_ _ | refine blk_drew ?_ | refine blk_alloc ?_ _)); exact BK319.out) Tryz.underlying32 rfl (by kernel_rfl)) rfl ?_
    exact ⟨_, _, by first | rfl | (simp [errW_none, errW_some] <;> rfl) | (simp [*, errW_none, errW_some] <;> rfl), (by first | exact Kd.V_nil _ _ _ _ _ | exact Kd.V_mono (Kd.R_V (by first | exact Kd.R_nil _ _ _ _ _ | exact Kd.N_nil _ _ _ _ _ | exact Kd.V_nil _ _ _ _ _ | exact Kd.Q_nil _ _ _ _ _ | exact Kd.S_nil _ _ _ _ _)) (fun k_ hk => by first | exact ⟨(.inr (hk.1)), hk.2⟩ | exact (.inr (hk)))), (by first | exact Kd.V_nil _ _ _ _ _ | exact Kd.V_mono (Kd.R_V (by first | exact Kd.R_nil _ _ _ _ _ | exact Kd.N_nil _ _ _ _ _ | exact Kd.V_nil _ _ _ _ _ | exact Kd.Q_nil _ _ _ _ _ | exact Kd.S_nil _ _ _ _ _)) (fun k_ hk => by first | exact ⟨(.inr (hk.1)), hk.2⟩ | exact (.inr (hk)))), bl2 HB GE318 GE319⟩

end Go.Proofs.YtelibndkkokadaaGreat.GB
