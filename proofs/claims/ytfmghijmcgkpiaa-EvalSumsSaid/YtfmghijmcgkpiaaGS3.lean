-- Written by wip/tools/gprint.py over the kit's printer.
import Derived.Test.YtfmghijmcgkpiaaGS0
import Derived.Test.YtfmghijmcgkpiaaSqz
namespace Go.Proofs.Ytfmghijmcgkpiaa.GS
open Go.RowKit Go.Proofs.YtfmghijmcgkpiaaW.PrintWords Go.Proofs.YtfmghijmcgkpiaaW.PrintLast Go.Proofs.Ytfmghijmcgkpiaa.HandV Go.Proofs.YtfmghijmcgkpiaaW.PrintMore
attribute [local go_sem] max2_int min2_int max_two min_two max_three min_three max_four min_four   -- for this text's walks alone
set_option linter.unusedVariables false
set_option linter.unusedSimpArgs false

/-! ### num_Sub: function 187 -/
def num_Sub.f (a0 : Int) (a1 : Int) : Option (Int × Int) := if a1 = 0 then (some (wrap64 (a0 - a1), 0)) else (if ((decide ((wrap64 (a0 - a1)) < a0)) == (decide (a1 > 0))) = true then (some (wrap64 (a0 - a1), 0)) else (some (0, 17)))
set_option maxHeartbeats 8000000 in
set_option maxRecDepth 100000 in
theorem num_Sub.calls (a0 : Int) (a1 : Int) (r1 : Int) (r2 : Int) (w : World) (h : num_Sub.f a0 a1 = some (r1, r2)) :
  Calls Try.prog 187 #[.int .i64 a0, .int .i64 a1] w fun e w' => e = .returned (.tuple #[.int .i64 r1, .int .i64 r2]) ∧ Drawn0 w w' := by
 have H : (if a1 = 0 then (some (wrap64 (a0 - a1), 0)) else (if ((decide ((wrap64 (a0 - a1)) < a0)) == (decide (a1 > 0))) = true then (some (wrap64 (a0 - a1), 0)) else (some (0, 17)))) = some (r1, r2) := h
 clear h
 by_cases c3 : a1 = 0
 ·
  rw [if_pos c3] at H
  have c3b0 : (a1 == 0) = true := beq_iff_eq.mpr c3
  have c3b1 : (a1 != 0) = false := bne_eq_false_iff_eq.mpr c3
  clear c3
  simp only [Option.some.injEq, Prod.mk.injEq] at H
  obtain ⟨rfl, rfl⟩ := H
  go_enter Try.func187, Try.ntmps187
  go_wp2
  go_ret2
  exact ⟨by first | rfl | (simp; done) | (simp [*]; done), by repeat (first | exact Drawn0.refl _ | apply Drawn0.step)⟩
 ·
  rw [if_neg c3] at H
  have c3b0 : (a1 == 0) = false := beq_eq_false_iff_ne.mpr c3
  have c3b1 : (a1 != 0) = true := bne_iff_ne.mpr c3
  by_cases c4 : ((decide ((wrap64 (a0 - a1)) < a0)) == (decide (a1 > 0))) = true
  ·
   rw [if_pos c4] at H
   have c4b0 : ((decide ((wrap64 (a0 - a1)) < a0)) == (decide (a1 > 0))) = true := c4
   (try (have c4b1 : decide ((decide ((wrap64 (a0 - a1)) < a0)) = (decide (a1 > 0))) = true := by simpa using c4))
   (try (have c4b2 : ((decide ((wrap64 (a0 - a1)) < a0)) == (decide (a1 > 0))) = true := by simpa using c4))
   clear c4
   simp only [Option.some.injEq, Prod.mk.injEq] at H
   obtain ⟨rfl, rfl⟩ := H
   go_enter Try.func187, Try.ntmps187
   go_wp2
   go_ret2
   exact ⟨by first | rfl | (simp; done) | (simp [*]; done), by repeat (first | exact Drawn0.refl _ | apply Drawn0.step)⟩
  ·
   rw [if_neg c4] at H
   have c4b0 : ((decide ((wrap64 (a0 - a1)) < a0)) == (decide (a1 > 0))) = false := by simpa using c4
   (try (have c4b1 : decide ((decide ((wrap64 (a0 - a1)) < a0)) = (decide (a1 > 0))) = false := by simpa using c4))
   (try (have c4b2 : ((decide ((wrap64 (a0 - a1)) < a0)) == (decide (a1 > 0))) = false := by simpa using c4))
   (try (have c4b3 : ¬ ((decide ((wrap64 (a0 - a1)) < a0)) = (decide (a1 > 0))) := by simpa using c4))
   clear c4
   simp only [Option.some.injEq, Prod.mk.injEq] at H
   obtain ⟨rfl, rfl⟩ := H
   go_enter Try.func187, Try.ntmps187
   go_wp2
   go_ret2
   exact ⟨by first | rfl | (simp; done) | (simp [*]; done), by repeat (first | exact Drawn0.refl _ | apply Drawn0.step)⟩

/-! ### num_Add: function 189 -/
def num_Add.f (a0 : Int) (a1 : Int) : Option (Int × Int) := if a1 = 0 then (some (wrap64 (a0 + a1), 0)) else (if ((decide ((wrap64 (a0 + a1)) > a0)) == (decide (a1 > 0))) = true then (some (wrap64 (a0 + a1), 0)) else (some (0, 17)))
set_option maxHeartbeats 8000000 in
set_option maxRecDepth 100000 in
theorem num_Add.calls (a0 : Int) (a1 : Int) (r1 : Int) (r2 : Int) (w : World) (h : num_Add.f a0 a1 = some (r1, r2)) :
  Calls Try.prog 189 #[.int .i64 a0, .int .i64 a1] w fun e w' => e = .returned (.tuple #[.int .i64 r1, .int .i64 r2]) ∧ Drawn0 w w' := by
 have H : (if a1 = 0 then (some (wrap64 (a0 + a1), 0)) else (if ((decide ((wrap64 (a0 + a1)) > a0)) == (decide (a1 > 0))) = true then (some (wrap64 (a0 + a1), 0)) else (some (0, 17)))) = some (r1, r2) := h
 clear h
 by_cases c3 : a1 = 0
 ·
  rw [if_pos c3] at H
  have c3b0 : (a1 == 0) = true := beq_iff_eq.mpr c3
  have c3b1 : (a1 != 0) = false := bne_eq_false_iff_eq.mpr c3
  clear c3
  simp only [Option.some.injEq, Prod.mk.injEq] at H
  obtain ⟨rfl, rfl⟩ := H
  go_enter Try.func189, Try.ntmps189
  go_wp2
  go_ret2
  exact ⟨by first | rfl | (simp; done) | (simp [*]; done), by repeat (first | exact Drawn0.refl _ | apply Drawn0.step)⟩
 ·
  rw [if_neg c3] at H
  have c3b0 : (a1 == 0) = false := beq_eq_false_iff_ne.mpr c3
  have c3b1 : (a1 != 0) = true := bne_iff_ne.mpr c3
  by_cases c4 : ((decide ((wrap64 (a0 + a1)) > a0)) == (decide (a1 > 0))) = true
  ·
   rw [if_pos c4] at H
   have c4b0 : ((decide ((wrap64 (a0 + a1)) > a0)) == (decide (a1 > 0))) = true := c4
   (try (have c4b1 : decide ((decide ((wrap64 (a0 + a1)) > a0)) = (decide (a1 > 0))) = true := by simpa using c4))
   (try (have c4b2 : ((decide ((wrap64 (a0 + a1)) > a0)) == (decide (a1 > 0))) = true := by simpa using c4))
   clear c4
   simp only [Option.some.injEq, Prod.mk.injEq] at H
   obtain ⟨rfl, rfl⟩ := H
   go_enter Try.func189, Try.ntmps189
   go_wp2
   go_ret2
   exact ⟨by first | rfl | (simp; done) | (simp [*]; done), by repeat (first | exact Drawn0.refl _ | apply Drawn0.step)⟩
  ·
   rw [if_neg c4] at H
   have c4b0 : ((decide ((wrap64 (a0 + a1)) > a0)) == (decide (a1 > 0))) = false := by simpa using c4
   (try (have c4b1 : decide ((decide ((wrap64 (a0 + a1)) > a0)) = (decide (a1 > 0))) = false := by simpa using c4))
   (try (have c4b2 : ((decide ((wrap64 (a0 + a1)) > a0)) == (decide (a1 > 0))) = false := by simpa using c4))
   (try (have c4b3 : ¬ ((decide ((wrap64 (a0 + a1)) > a0)) = (decide (a1 > 0))) := by simpa using c4))
   clear c4
   simp only [Option.some.injEq, Prod.mk.injEq] at H
   obtain ⟨rfl, rfl⟩ := H
   go_enter Try.func189, Try.ntmps189
   go_wp2
   go_ret2
   exact ⟨by first | rfl | (simp; done) | (simp [*]; done), by repeat (first | exact Drawn0.refl _ | apply Drawn0.step)⟩

/-! ### num_Mul: function 188 -/
def num_Mul.j0 : Nat → Int → Int → Bool → Option (Int × Int)
 | 0, _, _, _ => none
 | k + 1, x0, x1, x12 => if x12 = true then (some (0, 0)) else (if x0 = (-1) then (if x1 = (-9223372036854775808) then (some (0, 17)) else (if x1 = (-1) then (if x0 = (-9223372036854775808) then (some (0, 17)) else (if x1 = 0 then (none) else (if (wrap64 (Int.tdiv (wrap64 (x0 * x1)) x1)) = x0 then (some (wrap64 (x0 * x1), 0)) else (some (0, 17))))) else (if x1 = 0 then (none) else (if (wrap64 (Int.tdiv (wrap64 (x0 * x1)) x1)) = x0 then (some (wrap64 (x0 * x1), 0)) else (some (0, 17)))))) else (if x1 = (-1) then (if x0 = (-9223372036854775808) then (some (0, 17)) else (if x1 = 0 then (none) else (if (wrap64 (Int.tdiv (wrap64 (x0 * x1)) x1)) = x0 then (some (wrap64 (x0 * x1), 0)) else (some (0, 17))))) else (if x1 = 0 then (none) else (if (wrap64 (Int.tdiv (wrap64 (x0 * x1)) x1)) = x0 then (some (wrap64 (x0 * x1), 0)) else (some (0, 17))))))
def num_Mul.f (k : Nat) (a0 : Int) (a1 : Int) : Option (Int × Int) := if a0 = 0 then (num_Mul.j0 k a0 a1 true) else (num_Mul.j0 k a0 a1 (a1 == 0))
theorem num_Mul.mono_l : ∀ k, (∀ y0 y1 y2, LeO (num_Mul.j0 k y0 y1 y2) (num_Mul.j0 (k + 1) y0 y1 y2))
 | 0 => fun _ _ _ r h => by simp [num_Mul.j0] at h
 | k + 1 => by
  have ih0 := num_Mul.mono_l k
  ·
   intro y0 y1 y2
   unfold num_Mul.j0
   repeat' first
   | (with_reducible exact ih0 _ _ _)
   | (with_reducible exact LeO.refl _)
   | (with_reducible exact LeO.none _)
   | (with_reducible refine LeO.ite ?_ ?_)
   | (with_reducible refine LeO.bind ?_ (fun _ => ?_))
   | exact ih0 _ _ _
   | exact LeO.none _
   | refine LeO.ite ?_ ?_
   | refine LeO.bind ?_ (fun _ => ?_)
theorem num_Mul.mono : ∀ a0 a1 k, LeO (num_Mul.f k a0 a1) (num_Mul.f (k + 1) a0 a1) := by
 intro a0 a1 k
 have ih0 := num_Mul.mono_l k
 unfold num_Mul.f
 repeat' first
   | (with_reducible exact ih0 _ _ _)
   | (with_reducible exact LeO.refl _)
   | (with_reducible exact LeO.none _)
   | (with_reducible refine LeO.ite ?_ ?_)
   | (with_reducible refine LeO.bind ?_ (fun _ => ?_))
   | exact ih0 _ _ _
   | exact LeO.none _
   | refine LeO.ite ?_ ?_
   | refine LeO.bind ?_ (fun _ => ?_)
set_option maxHeartbeats 8000000 in
set_option maxRecDepth 100000 in
theorem num_Mul.calls (k : Nat) (a0 : Int) (a1 : Int) (r1 : Int) (r2 : Int) (w : World) (h : num_Mul.f k a0 a1 = some (r1, r2)) :
  Calls Try.prog 188 #[.int .i64 a0, .int .i64 a1] w fun e w' => e = .returned (.tuple #[.int .i64 r1, .int .i64 r2]) ∧ Drawn0 w w' := by
 have H : (if a0 = 0 then (num_Mul.j0 k a0 a1 true) else (num_Mul.j0 k a0 a1 (a1 == 0))) = some (r1, r2) := h
 clear h
 have HC3 := aZ_ H
 clear H
 go_enter Try.func188, Try.ntmps188
 go_upto_region 1 with (fail)
 go_cut [12] (fun v12 wc => ∃ (kq : Nat) (x12_2 : Bool), v12 = .bool x12_2 ∧ Aside0 (num_Mul.j0 kq a0 a1 x12_2 = some (r1, r2)) ∧ Aside0 (kq ≤ k) ∧ Drawn0 w wc)
 case first =>
  have H := HC3.out
  clear HC3
  by_cases c4 : a0 = 0
  ·
   rw [if_pos c4] at H
   have c4b0 : (a0 == 0) = true := beq_iff_eq.mpr c4
   have c4b1 : (a0 != 0) = false := bne_eq_false_iff_eq.mpr c4
   clear c4
   (first | rw [c4b0] | (simp only [i64_w, i32_w]; rw [c4b0]) | skip)
   have H' := aZ_ H
   clear H
   go_wp2
   go_meet
   case rel => exact ⟨_, (true), rf_, H', ⟨by first | omega | exact Nat.le_refl _⟩, by repeat (first | exact Drawn0.refl _ | apply Drawn0.step)⟩
  ·
   rw [if_neg c4] at H
   have c4b0 : (a0 == 0) = false := beq_eq_false_iff_ne.mpr c4
   have c4b1 : (a0 != 0) = true := bne_iff_ne.mpr c4
   (first | rw [c4b0] | (simp only [i64_w, i32_w]; rw [c4b0]) | skip)
   have H' := aZ_ H
   clear H
   go_wp2
   go_meet
   case rel => exact ⟨_, ((a1 == 0)), rf_, H', ⟨by first | omega | exact Nat.le_refl _⟩, by repeat (first | exact Drawn0.refl _ | apply Drawn0.step)⟩
 case rest =>
  clear HC3
  try clear c1
  try clear p2
  try clear c4
  try clear c4b0
  try clear c4b1
  obtain ⟨kq, x12_2, rfl, HA, HJ2, ⟨mc2, rfl⟩⟩ := hcut
  cases kq with
  | zero => exact absurd HA.out (by simp [num_Mul.j0])
  | succ kj2 =>
   have H := HA.out
   clear HA
   simp only [num_Mul.j0] at H
   by_cases c5 : x12_2 = true
   ·
    subst c5
    have H1 : (some (0, 0)) = some (r1, r2) := by rw [if_pos rfl] at H; exact H
    clear H
    have H := H1
    clear H1
    simp only [Option.some.injEq, Prod.mk.injEq] at H
    obtain ⟨rfl, rfl⟩ := H
    go_wp2
    go_ret2
    exact ⟨by first | rfl | (simp; done) | (simp [*]; done), by repeat (first | exact Drawn0.refl _ | apply Drawn0.step)⟩
   ·
    replace c5 := Bool.eq_false_iff.mpr c5
    subst c5
    have H1 : (if a0 = (-1) then (if a1 = (-9223372036854775808) then (some (0, 17)) else (if a1 = (-1) then (if a0 = (-9223372036854775808) then (some (0, 17)) else (if a1 = 0 then (none) else (if (wrap64 (Int.tdiv (wrap64 (a0 * a1)) a1)) = a0 then (some (wrap64 (a0 * a1), 0)) else (some (0, 17))))) else (if a1 = 0 then (none) else (if (wrap64 (Int.tdiv (wrap64 (a0 * a1)) a1)) = a0 then (some (wrap64 (a0 * a1), 0)) else (some (0, 17)))))) else (if a1 = (-1) then (if a0 = (-9223372036854775808) then (some (0, 17)) else (if a1 = 0 then (none) else (if (wrap64 (Int.tdiv (wrap64 (a0 * a1)) a1)) = a0 then (some (wrap64 (a0 * a1), 0)) else (some (0, 17))))) else (if a1 = 0 then (none) else (if (wrap64 (Int.tdiv (wrap64 (a0 * a1)) a1)) = a0 then (some (wrap64 (a0 * a1), 0)) else (some (0, 17)))))) = some (r1, r2) := by rw [if_neg (show ¬ (false = true) by decide)] at H; exact H
    clear H
    have H := H1
    clear H1
    by_cases c6 : a0 = (-1)
    ·
     rw [if_pos c6] at H
     have c6b0 : (a0 == (-1)) = true := beq_iff_eq.mpr c6
     have c6b1 : (a0 != (-1)) = false := bne_eq_false_iff_eq.mpr c6
     clear c6
     by_cases c7 : a1 = (-9223372036854775808)
     ·
      rw [if_pos c7] at H
      have c7b0 : (a1 == (-9223372036854775808)) = true := beq_iff_eq.mpr c7
      have c7b1 : (a1 != (-9223372036854775808)) = false := bne_eq_false_iff_eq.mpr c7
      clear c7
      simp only [Option.some.injEq, Prod.mk.injEq] at H
      obtain ⟨rfl, rfl⟩ := H
      go_wp2
      go_ret2
      exact ⟨by first | rfl | (simp; done) | (simp [*]; done), by repeat (first | exact Drawn0.refl _ | apply Drawn0.step)⟩
     ·
      rw [if_neg c7] at H
      have c7b0 : (a1 == (-9223372036854775808)) = false := beq_eq_false_iff_ne.mpr c7
      have c7b1 : (a1 != (-9223372036854775808)) = true := bne_iff_ne.mpr c7
      by_cases c8 : a1 = (-1)
      ·
       rw [if_pos c8] at H
       have c8b0 : (a1 == (-1)) = true := beq_iff_eq.mpr c8
       have c8b1 : (a1 != (-1)) = false := bne_eq_false_iff_eq.mpr c8
       clear c8
       by_cases c9 : a0 = (-9223372036854775808)
       ·
        rw [if_pos c9] at H
        have c9b0 : (a0 == (-9223372036854775808)) = true := beq_iff_eq.mpr c9
        have c9b1 : (a0 != (-9223372036854775808)) = false := bne_eq_false_iff_eq.mpr c9
        clear c9
        simp only [Option.some.injEq, Prod.mk.injEq] at H
        obtain ⟨rfl, rfl⟩ := H
        go_wp2
        go_ret2
        exact ⟨by first | rfl | (simp; done) | (simp [*]; done), by repeat (first | exact Drawn0.refl _ | apply Drawn0.step)⟩
       ·
        rw [if_neg c9] at H
        have c9b0 : (a0 == (-9223372036854775808)) = false := beq_eq_false_iff_ne.mpr c9
        have c9b1 : (a0 != (-9223372036854775808)) = true := bne_iff_ne.mpr c9
        by_cases c10 : a1 = 0
        ·
         rw [if_pos c10] at H
         exact absurd H (by simp)
        ·
         rw [if_neg c10] at H
         have c10b0 : (a1 == 0) = false := beq_eq_false_iff_ne.mpr c10
         have c10b1 : (a1 != 0) = true := bne_iff_ne.mpr c10
         by_cases c11 : (wrap64 (Int.tdiv (wrap64 (a0 * a1)) a1)) = a0
         ·
          rw [if_pos c11] at H
          have c11b0 : ((wrap64 (Int.tdiv (wrap64 (a0 * a1)) a1)) == a0) = true := beq_iff_eq.mpr c11
          have c11b1 : ((wrap64 (Int.tdiv (wrap64 (a0 * a1)) a1)) != a0) = false := bne_eq_false_iff_eq.mpr c11
          clear c11
          simp only [Option.some.injEq, Prod.mk.injEq] at H
          obtain ⟨rfl, rfl⟩ := H
          go_wp2
          go_ret2
          exact ⟨by first | rfl | (simp; done) | (simp [*]; done), by repeat (first | exact Drawn0.refl _ | apply Drawn0.step)⟩
         ·
          rw [if_neg c11] at H
          have c11b0 : ((wrap64 (Int.tdiv (wrap64 (a0 * a1)) a1)) == a0) = false := beq_eq_false_iff_ne.mpr c11
          have c11b1 : ((wrap64 (Int.tdiv (wrap64 (a0 * a1)) a1)) != a0) = true := bne_iff_ne.mpr c11
          simp only [Option.some.injEq, Prod.mk.injEq] at H
          obtain ⟨rfl, rfl⟩ := H
          go_wp2
          go_ret2
          exact ⟨by first | rfl | (simp; done) | (simp [*]; done), by repeat (first | exact Drawn0.refl _ | apply Drawn0.step)⟩
      ·
       rw [if_neg c8] at H
       have c8b0 : (a1 == (-1)) = false := beq_eq_false_iff_ne.mpr c8
       have c8b1 : (a1 != (-1)) = true := bne_iff_ne.mpr c8
       by_cases c12 : a1 = 0
       ·
        rw [if_pos c12] at H
        exact absurd H (by simp)
       ·
        rw [if_neg c12] at H
        have c12b0 : (a1 == 0) = false := beq_eq_false_iff_ne.mpr c12
        have c12b1 : (a1 != 0) = true := bne_iff_ne.mpr c12
        by_cases c13 : (wrap64 (Int.tdiv (wrap64 (a0 * a1)) a1)) = a0
        ·
         rw [if_pos c13] at H
         have c13b0 : ((wrap64 (Int.tdiv (wrap64 (a0 * a1)) a1)) == a0) = true := beq_iff_eq.mpr c13
         have c13b1 : ((wrap64 (Int.tdiv (wrap64 (a0 * a1)) a1)) != a0) = false := bne_eq_false_iff_eq.mpr c13
         clear c13
         simp only [Option.some.injEq, Prod.mk.injEq] at H
         obtain ⟨rfl, rfl⟩ := H
         go_wp2
         go_ret2
         exact ⟨by first | rfl | (simp; done) | (simp [*]; done), by repeat (first | exact Drawn0.refl _ | apply Drawn0.step)⟩
        ·
         rw [if_neg c13] at H
         have c13b0 : ((wrap64 (Int.tdiv (wrap64 (a0 * a1)) a1)) == a0) = false := beq_eq_false_iff_ne.mpr c13
         have c13b1 : ((wrap64 (Int.tdiv (wrap64 (a0 * a1)) a1)) != a0) = true := bne_iff_ne.mpr c13
         simp only [Option.some.injEq, Prod.mk.injEq] at H
         obtain ⟨rfl, rfl⟩ := H
         go_wp2
         go_ret2
         exact ⟨by first | rfl | (simp; done) | (simp [*]; done), by repeat (first | exact Drawn0.refl _ | apply Drawn0.step)⟩
    ·
     rw [if_neg c6] at H
     have c6b0 : (a0 == (-1)) = false := beq_eq_false_iff_ne.mpr c6
     have c6b1 : (a0 != (-1)) = true := bne_iff_ne.mpr c6
     by_cases c14 : a1 = (-1)
     ·
      rw [if_pos c14] at H
      have c14b0 : (a1 == (-1)) = true := beq_iff_eq.mpr c14
      have c14b1 : (a1 != (-1)) = false := bne_eq_false_iff_eq.mpr c14
      clear c14
      by_cases c15 : a0 = (-9223372036854775808)
      ·
       rw [if_pos c15] at H
       have c15b0 : (a0 == (-9223372036854775808)) = true := beq_iff_eq.mpr c15
       have c15b1 : (a0 != (-9223372036854775808)) = false := bne_eq_false_iff_eq.mpr c15
       clear c15
       simp only [Option.some.injEq, Prod.mk.injEq] at H
       obtain ⟨rfl, rfl⟩ := H
       go_wp2
       go_ret2
       exact ⟨by first | rfl | (simp; done) | (simp [*]; done), by repeat (first | exact Drawn0.refl _ | apply Drawn0.step)⟩
      ·
       rw [if_neg c15] at H
       have c15b0 : (a0 == (-9223372036854775808)) = false := beq_eq_false_iff_ne.mpr c15
       have c15b1 : (a0 != (-9223372036854775808)) = true := bne_iff_ne.mpr c15
       by_cases c16 : a1 = 0
       ·
        rw [if_pos c16] at H
        exact absurd H (by simp)
       ·
        rw [if_neg c16] at H
        have c16b0 : (a1 == 0) = false := beq_eq_false_iff_ne.mpr c16
        have c16b1 : (a1 != 0) = true := bne_iff_ne.mpr c16
        by_cases c17 : (wrap64 (Int.tdiv (wrap64 (a0 * a1)) a1)) = a0
        ·
         rw [if_pos c17] at H
         have c17b0 : ((wrap64 (Int.tdiv (wrap64 (a0 * a1)) a1)) == a0) = true := beq_iff_eq.mpr c17
         have c17b1 : ((wrap64 (Int.tdiv (wrap64 (a0 * a1)) a1)) != a0) = false := bne_eq_false_iff_eq.mpr c17
         clear c17
         simp only [Option.some.injEq, Prod.mk.injEq] at H
         obtain ⟨rfl, rfl⟩ := H
         go_wp2
         go_ret2
         exact ⟨by first | rfl | (simp; done) | (simp [*]; done), by repeat (first | exact Drawn0.refl _ | apply Drawn0.step)⟩
        ·
         rw [if_neg c17] at H
         have c17b0 : ((wrap64 (Int.tdiv (wrap64 (a0 * a1)) a1)) == a0) = false := beq_eq_false_iff_ne.mpr c17
         have c17b1 : ((wrap64 (Int.tdiv (wrap64 (a0 * a1)) a1)) != a0) = true := bne_iff_ne.mpr c17
         simp only [Option.some.injEq, Prod.mk.injEq] at H
         obtain ⟨rfl, rfl⟩ := H
         go_wp2
         go_ret2
         exact ⟨by first | rfl | (simp; done) | (simp [*]; done), by repeat (first | exact Drawn0.refl _ | apply Drawn0.step)⟩
     ·
      rw [if_neg c14] at H
      have c14b0 : (a1 == (-1)) = false := beq_eq_false_iff_ne.mpr c14
      have c14b1 : (a1 != (-1)) = true := bne_iff_ne.mpr c14
      by_cases c18 : a1 = 0
      ·
       rw [if_pos c18] at H
       exact absurd H (by simp)
      ·
       rw [if_neg c18] at H
       have c18b0 : (a1 == 0) = false := beq_eq_false_iff_ne.mpr c18
       have c18b1 : (a1 != 0) = true := bne_iff_ne.mpr c18
       by_cases c19 : (wrap64 (Int.tdiv (wrap64 (a0 * a1)) a1)) = a0
       ·
        rw [if_pos c19] at H
        have c19b0 : ((wrap64 (Int.tdiv (wrap64 (a0 * a1)) a1)) == a0) = true := beq_iff_eq.mpr c19
        have c19b1 : ((wrap64 (Int.tdiv (wrap64 (a0 * a1)) a1)) != a0) = false := bne_eq_false_iff_eq.mpr c19
        clear c19
        simp only [Option.some.injEq, Prod.mk.injEq] at H
        obtain ⟨rfl, rfl⟩ := H
        go_wp2
        go_ret2
        exact ⟨by first | rfl | (simp; done) | (simp [*]; done), by repeat (first | exact Drawn0.refl _ | apply Drawn0.step)⟩
       ·
        rw [if_neg c19] at H
        have c19b0 : ((wrap64 (Int.tdiv (wrap64 (a0 * a1)) a1)) == a0) = false := beq_eq_false_iff_ne.mpr c19
        have c19b1 : ((wrap64 (Int.tdiv (wrap64 (a0 * a1)) a1)) != a0) = true := bne_iff_ne.mpr c19
        simp only [Option.some.injEq, Prod.mk.injEq] at H
        obtain ⟨rfl, rfl⟩ := H
        go_wp2
        go_ret2
        exact ⟨by first | rfl | (simp; done) | (simp [*]; done), by repeat (first | exact Drawn0.refl _ | apply Drawn0.step)⟩

/-! ### num_Neg: function 165 -/
def num_Neg.f (a0 : Int) : Option (Int × Int) := (num_Sub.f 0 a0).bind fun bt106 => (some (bt106.1, bt106.2))
set_option maxHeartbeats 8000000 in
set_option maxRecDepth 100000 in
theorem num_Neg.calls (a0 : Int) (r1 : Int) (r2 : Int) (w : World) (h : num_Neg.f a0 = some (r1, r2)) :
  Calls Try.prog 165 #[.int .i64 a0] w fun e w' => e = .returned (.tuple #[.int .i64 r1, .int .i64 r2]) ∧ Drawn0 w w' := by
 have H : ((num_Sub.f 0 a0).bind fun bt106 => (some (bt106.1, bt106.2))) = some (r1, r2) := h
 clear h
 replace H := Option.bind_eq_some_iff.mp H
 obtain ⟨⟨t106, t107⟩, A20, H⟩ := H
 replace H : (some (t106, t107)) = some (r1, r2) := H
 have A2 := aZ_ A20
 clear A20
 simp only [Option.some.injEq, Prod.mk.injEq] at H
 obtain ⟨rfl, rfl⟩ := H
 go_enter Try.func165, Try.ntmps165
 go_wp2_with (first | ((with_reducible refine gate_callee (f := 187) rfl ?_); refine goesL_ (some 5) rfl rfl Try.func187 (by kernel_rfl) rfl #[.int .i64 0, .int .i64 a0] rfl gm_ ?_; (with_reducible refine (num_Sub.calls 0 a0 t106 t107 _ A2.out).mono ?_); rintro e w' ⟨rfl, ⟨nd, rfl⟩⟩; refine ⟨_, rfl, ?_⟩))
 go_ret2
 exact ⟨by first | rfl | (simp; done) | (simp [*]; done), by repeat (first | exact Drawn0.refl _ | apply Drawn0.step)⟩

/-! ### eval_world_leaf: function 135 -/
def eval_world_leaf.f (l0_0 : List (S46)) (a0_1 : ByteArray) (a0_2 : ByteArray) (a0_3 : ByteArray) (a0_4 : ByteArray) (a0_5 : ByteArray) (a0_6 : ByteArray) (a1_0 : Int) (a1_1 : Bool) (a1_2 : Int) (a1_3 : ByteArray) (a1_4 : ByteArray) (a1_5 : ByteArray) (l1_6 : List (S67)) : Option (Int × Bool × Int × ByteArray × ByteArray × ByteArray × (List (S31))) := if a1_0 = 1 then (some (1, a1_1, 0, (⟨#[]⟩ : ByteArray), (⟨#[]⟩ : ByteArray), (⟨#[]⟩ : ByteArray), ([] : List (S31)))) else (if a1_0 = 2 then (some (2, false, a1_2, (⟨#[]⟩ : ByteArray), (⟨#[]⟩ : ByteArray), (⟨#[]⟩ : ByteArray), ([] : List (S31)))) else (if a1_0 = 3 then (some (3, false, 0, a1_3, (⟨#[]⟩ : ByteArray), (⟨#[]⟩ : ByteArray), ([] : List (S31)))) else (if a1_0 = 4 then (some (4, false, 0, (⟨#[]⟩ : ByteArray), a1_4, a1_5, ([] : List (S31)))) else (if a1_3.toList = ([112, 114, 105, 110, 99, 105, 112, 97, 108] : List UInt8) then (some (4, false, 0, (⟨#[]⟩ : ByteArray), a0_1, a0_2, ([] : List (S31)))) else (if a1_3.toList = ([97, 99, 116, 105, 111, 110] : List UInt8) then (some (4, false, 0, (⟨#[]⟩ : ByteArray), a0_3, a0_4, ([] : List (S31)))) else (some (4, false, 0, (⟨#[]⟩ : ByteArray), a0_5, a0_6, ([] : List (S31)))))))))
set_option maxHeartbeats 8000000 in
set_option maxRecDepth 100000 in
theorem eval_world_leaf.calls (A0_0 : Option Addr) (c0_0 : Nat) (l0_0 : List (S46)) (a0_1 : ByteArray) (a0_2 : ByteArray) (a0_3 : ByteArray) (a0_4 : ByteArray) (a0_5 : ByteArray) (a0_6 : ByteArray) (a1_0 : Int) (a1_1 : Bool) (a1_2 : Int) (a1_3 : ByteArray) (a1_4 : ByteArray) (a1_5 : ByteArray) (A1_6 : Option Addr) (c1_6 : Nat) (l1_6 : List (S67)) (r1 : Int) (r2 : Bool) (r3 : Int) (r4 : ByteArray) (r5 : ByteArray) (r6 : ByteArray) (r7 : List (S31)) (w : World) (hr0_0 : Kd.C k46 w A0_0 l0_0.length l0_0) (hc0_0 : l0_0.length ≤ c0_0) (hr1_6 : Kd.C k67 w A1_6 l1_6.length l1_6) (hc1_6 : l1_6.length ≤ c1_6) (h : eval_world_leaf.f l0_0 a0_1 a0_2 a0_3 a0_4 a0_5 a0_6 a1_0 a1_1 a1_2 a1_3 a1_4 a1_5 l1_6 = some (r1, r2, r3, r4, r5, r6, r7)) :
  Calls Try.prog 135 #[.agg #[.slice A0_0 l0_0.length c0_0, .string a0_1, .string a0_2, .string a0_3, .string a0_4, .string a0_5, .string a0_6], .agg #[.int .i64 a1_0, .bool a1_1, .int .i64 a1_2, .string a1_3, .string a1_4, .string a1_5, .slice A1_6 l1_6.length c1_6]] w fun e w' => ∃ v6_ : Value, e = .returned (.agg #[.int .i64 r1, .bool r2, .int .i64 r3, .string r4, .string r5, .string r6, v6_]) ∧ Kd.R k31 31 w' w.heap.size (fun _ => True) v6_ r7 ∧ Below w.heap.size w w' := by
 have hu151 := Try.underlying151
 have hu67 := Try.underlying67
 have hu31 := Try.underlying31
 have hu28 := Try.underlying28
 have HR0_0 := aZ_ hr0_0
 have HC0_0 := aZ_ hc0_0
 clear hr0_0 hc0_0
 have HR1_6 := aZ_ hr1_6
 have HC1_6 := aZ_ hc1_6
 clear hr1_6 hc1_6
 have HB := aZ_ (Below.refl w.heap.size w)
 have H : (if a1_0 = 1 then (some (1, a1_1, 0, (⟨#[]⟩ : ByteArray), (⟨#[]⟩ : ByteArray), (⟨#[]⟩ : ByteArray), ([] : List (S31)))) else (if a1_0 = 2 then (some (2, false, a1_2, (⟨#[]⟩ : ByteArray), (⟨#[]⟩ : ByteArray), (⟨#[]⟩ : ByteArray), ([] : List (S31)))) else (if a1_0 = 3 then (some (3, false, 0, a1_3, (⟨#[]⟩ : ByteArray), (⟨#[]⟩ : ByteArray), ([] : List (S31)))) else (if a1_0 = 4 then (some (4, false, 0, (⟨#[]⟩ : ByteArray), a1_4, a1_5, ([] : List (S31)))) else (if a1_3.toList = ([112, 114, 105, 110, 99, 105, 112, 97, 108] : List UInt8) then (some (4, false, 0, (⟨#[]⟩ : ByteArray), a0_1, a0_2, ([] : List (S31)))) else (if a1_3.toList = ([97, 99, 116, 105, 111, 110] : List UInt8) then (some (4, false, 0, (⟨#[]⟩ : ByteArray), a0_3, a0_4, ([] : List (S31)))) else (some (4, false, 0, (⟨#[]⟩ : ByteArray), a0_5, a0_6, ([] : List (S31)))))))))) = some (r1, r2, r3, r4, r5, r6, r7) := h
 clear h
 by_cases c3 : a1_0 = 1
 ·
  rw [if_pos c3] at H
  have c3b0 : (a1_0 == 1) = true := beq_iff_eq.mpr c3
  have c3b1 : (a1_0 != 1) = false := bne_eq_false_iff_eq.mpr c3
  clear c3
  simp only [Option.some.injEq, Prod.mk.injEq] at H
  obtain ⟨rfl, rfl, rfl, rfl, rfl, rfl, rfl⟩ := H
  go_enter Try.func135, Try.ntmps135
  go_wp2_with (first | ((with_reducible refine gate_dst (N := 2) rfl ?_); refine bxE 2 #[.slice A0_0 l0_0.length c0_0, .string a0_1, .string a0_2, .string a0_3, .string a0_4, .string a0_5, .string a0_6] 151 ?_; intro gb108 hg w4 hbox hb; have BK108 := aZ_ (hbox); have GW108 := aZ_ ((by rw [hg]; exact (below_size (bl HB)) : w.heap.size ≤ gb108)); have GE108 := aZ_ ((by rw [hg]; exact (below_size (bl HB)) : w.heap.size ≤ gb108)); replace HB := aZ_ (below_step (bl HB) hb); clear hb hbox hg) | ((with_reducible refine gate_dst (N := 3) rfl ?_); refine bxE 3 #[.int .i64 a1_0, .bool a1_1, .int .i64 a1_2, .string a1_3, .string a1_4, .string a1_5, .slice A1_6 l1_6.length c1_6] 67 ?_; intro gb109 hg w5 hbox hb; have BK109 := aZ_ (hbox); have GW109 := aZ_ ((by rw [hg]; exact (below_size (bl1 HB GE108)) : w.heap.size ≤ gb109)); have GE109 := aZ_ ((by rw [hg]; exact (below_size (bl1 HB GE108)) : w.heap.size ≤ gb109)); replace HB := aZ_ (below_step (bl1 HB GE108) hb); have NB108_109 := aZ_ ((by rw [hg]; exact Nat.ne_of_lt (blk_lt (g := gb108) (o := .cells #[.slice A0_0 l0_0.length c0_0, .string a0_1, .string a0_2, .string a0_3, .string a0_4, .string a0_5, .string a0_6] 151 (0, 0)) (bk BK108)) : gb108 ≠ gb109)); have NB109_108 := aZ_ ((by rw [hg]; exact Nat.ne_of_gt (blk_lt (g := gb108) (o := .cells #[.slice A0_0 l0_0.length c0_0, .string a0_1, .string a0_2, .string a0_3, .string a0_4, .string a0_5, .string a0_6] 151 (0, 0)) (bk BK108)) : gb109 ≠ gb108)); replace BK108 := aZ_ (blk_below (g := gb108) (o := .cells #[.slice A0_0 l0_0.length c0_0, .string a0_1, .string a0_2, .string a0_3, .string a0_4, .string a0_5, .string a0_6] 151 (0, 0)) (bk BK108) hb); clear hb hbox hg) | ((with_reducible refine gate_dst (N := 4) rfl ?_); refine bxE 4 #[.int .i64 0, .bool false, .int .i64 0, .string (⟨#[]⟩ : ByteArray), .string (⟨#[]⟩ : ByteArray), .string (⟨#[]⟩ : ByteArray), .slice none 0 0] 31 ?_; intro gb110 hg w6 hbox hb; have BK110 := aZ_ (hbox); have GW110 := aZ_ ((by rw [hg]; exact (below_size (bl2 HB GE108 GE109)) : w.heap.size ≤ gb110)); have GE110 := aZ_ ((by rw [hg]; exact (below_size (bl2 HB GE108 GE109)) : w.heap.size ≤ gb110)); replace HB := aZ_ (below_step (bl2 HB GE108 GE109) hb); have NB108_110 := aZ_ ((by rw [hg]; exact Nat.ne_of_lt (blk_lt (g := gb108) (o := .cells #[.slice A0_0 l0_0.length c0_0, .string a0_1, .string a0_2, .string a0_3, .string a0_4, .string a0_5, .string a0_6] 151 (0, 0)) (bk BK108)) : gb108 ≠ gb110)); have NB110_108 := aZ_ ((by rw [hg]; exact Nat.ne_of_gt (blk_lt (g := gb108) (o := .cells #[.slice A0_0 l0_0.length c0_0, .string a0_1, .string a0_2, .string a0_3, .string a0_4, .string a0_5, .string a0_6] 151 (0, 0)) (bk BK108)) : gb110 ≠ gb108)); replace BK108 := aZ_ (blk_below (g := gb108) (o := .cells #[.slice A0_0 l0_0.length c0_0, .string a0_1, .string a0_2, .string a0_3, .string a0_4, .string a0_5, .string a0_6] 151 (0, 0)) (bk BK108) hb); have NB109_110 := aZ_ ((by rw [hg]; exact Nat.ne_of_lt (blk_lt (g := gb109) (o := .cells #[.int .i64 a1_0, .bool a1_1, .int .i64 a1_2, .string a1_3, .string a1_4, .string a1_5, .slice A1_6 l1_6.length c1_6] 67 (0, 0)) (bk BK109)) : gb109 ≠ gb110)); have NB110_109 := aZ_ ((by rw [hg]; exact Nat.ne_of_gt (blk_lt (g := gb109) (o := .cells #[.int .i64 a1_0, .bool a1_1, .int .i64 a1_2, .string a1_3, .string a1_4, .string a1_5, .slice A1_6 l1_6.length c1_6] 67 (0, 0)) (bk BK109)) : gb110 ≠ gb109)); replace BK109 := aZ_ (blk_below (g := gb109) (o := .cells #[.int .i64 a1_0, .bool a1_1, .int .i64 a1_2, .string a1_3, .string a1_4, .string a1_5, .slice A1_6 l1_6.length c1_6] 67 (0, 0)) (bk BK109) hb); clear hb hbox hg; have hnb7 := NB109_108.out; have hnc7 := NB108_109.out; have hnb8 := NB109_110.out; have hnc8 := NB110_109.out; obtain ⟨hcz9_0, hcz9_1, hcz9_2, hcz9_3, hcz9_4, hcz9_5, hcz9_6, hfz9_0, hfz9_1, hfz9_2, hfz9_3, hfz9_4, hfz9_5, hfz9_6⟩ := bc7 BK109; have hnb10 := NB110_108.out; have hnc10 := NB108_110.out; obtain ⟨hcz11_0, hcz11_1, hcz11_2, hcz11_3, hcz11_4, hcz11_5, hcz11_6, hfz11_0, hfz11_1, hfz11_2, hfz11_3, hfz11_4, hfz11_5, hfz11_6⟩ := bc7 BK110))
  refine bodyPost_ret (results_cell_row rfl _ _ gb110 31 #[.int .i64 1, .bool a1_1, .int .i64 0, .string (⟨#[]⟩ : ByteArray), .string (⟨#[]⟩ : ByteArray), .string (⟨#[]⟩ : ByteArray), .slice none 0 0] (0, 0) _ rfl (by (with_reducible repeat (first | refine blk_drewN ?_ _ | refine blk_drew ?_ | refine blk_alloc ?_ _)); refine blk_put (cs := #[.int .i64 1, .bool a1_1, .int .i64 0, .string (⟨#[]⟩ : ByteArray), .string (⟨#[]⟩ : ByteArray), .string (⟨#[]⟩ : ByteArray), .slice none 0 0]) ?_ 6 _ rfl; (with_reducible repeat (first | refine blk_drewN ?_ _ | refine blk_drew ?_ | refine blk_alloc ?_ _)); refine blk_put (cs := #[.int .i64 1, .bool a1_1, .int .i64 0, .string (⟨#[]⟩ : ByteArray), .string (⟨#[]⟩ : ByteArray), .string (⟨#[]⟩ : ByteArray), .slice none 0 0]) ?_ 5 _ rfl; (with_reducible repeat (first | refine blk_drewN ?_ _ | refine blk_drew ?_ | refine blk_alloc ?_ _)); refine blk_put (cs := #[.int .i64 1, .bool a1_1, .int .i64 0, .string (⟨#[]⟩ : ByteArray), .string (⟨#[]⟩ : ByteArray), .string (⟨#[]⟩ : ByteArray), .slice none 0 0]) ?_ 4 _ rfl; (with_reducible repeat (first | refine blk_drewN ?_ _ | refine blk_drew ?_ | refine blk_alloc ?_ _)); refine blk_put (cs := #[.int .i64 1, .bool a1_1, .int .i64 0, .string (⟨#[]⟩ : ByteArray), .string (⟨#[]⟩ : ByteArray), .string (⟨#[]⟩ : ByteArray), .slice none 0 0]) ?_ 3 _ rfl; (with_reducible repeat (first | refine blk_drewN ?_ _ | refine blk_drew ?_ | refine blk_alloc ?_ _)); refine blk_put (cs := #[.int .i64 1, .bool a1_1, .int .i64 0, .string (⟨#[]⟩ : ByteArray), .string (⟨#[]⟩ : ByteArray), .string (⟨#[]⟩ : ByteArray), .slice none 0 0]) ?_ 2 _ rfl; (with_reducible repeat (first | refine blk_drewN ?_ _ | refine blk_drew ?_ | refine blk_alloc ?_ _)); refine blk_put (cs := #[.int .i64 1, .bool false, .int .i64 0, .string (⟨#[]⟩ : ByteArray), .string (⟨#[]⟩ : ByteArray), .string (⟨#[]⟩ : ByteArray), .slice none 0 0]) ?_ 1 _ rfl; (with_reducible repeat (first | refine blk_drewN ?_ _ | refine blk_drew ?_ | refine blk_alloc ?_ _)); refine blk_put (cs := #[.int .i64 0, .bool false, .int .i64 0, .string (⟨#[]⟩ : ByteArray), .string (⟨#[]⟩ : ByteArray), .string (⟨#[]⟩ : ByteArray), .slice none 0 0]) ?_ 0 _ rfl; (with_reducible repeat (first | refine blk_drewN ?_ _ | refine blk_drew ?_ | refine blk_alloc ?_ _)); exact BK110.out) Try.underlying31 rfl (by kernel_rfl)) rfl ?_
  exact ⟨_, by first | rfl | (simp [errW_none, errW_some] <;> rfl) | (simp [*, errW_none, errW_some] <;> rfl), by first | exact Kd.R_nil _ _ _ _ _ | exact Kd.N_nil _ _ _ _ _ | exact Kd.V_nil _ _ _ _ _ | exact Kd.Q_nil _ _ _ _ _ | exact Kd.S_nil _ _ _ _ _, bl3 HB GE108 GE109 GE110⟩
 ·
  rw [if_neg c3] at H
  have c3b0 : (a1_0 == 1) = false := beq_eq_false_iff_ne.mpr c3
  have c3b1 : (a1_0 != 1) = true := bne_iff_ne.mpr c3
  by_cases c12 : a1_0 = 2
  ·
   rw [if_pos c12] at H
   have c12b0 : (a1_0 == 2) = true := beq_iff_eq.mpr c12
   have c12b1 : (a1_0 != 2) = false := bne_eq_false_iff_eq.mpr c12
   clear c12
   simp only [Option.some.injEq, Prod.mk.injEq] at H
   obtain ⟨rfl, rfl, rfl, rfl, rfl, rfl, rfl⟩ := H
   go_enter Try.func135, Try.ntmps135
   go_wp2_with (first | ((with_reducible refine gate_dst (N := 2) rfl ?_); refine bxE 2 #[.slice A0_0 l0_0.length c0_0, .string a0_1, .string a0_2, .string a0_3, .string a0_4, .string a0_5, .string a0_6] 151 ?_; intro gb108 hg w13 hbox hb; have BK108 := aZ_ (hbox); have GW108 := aZ_ ((by rw [hg]; exact (below_size (bl HB)) : w.heap.size ≤ gb108)); have GE108 := aZ_ ((by rw [hg]; exact (below_size (bl HB)) : w.heap.size ≤ gb108)); replace HB := aZ_ (below_step (bl HB) hb); clear hb hbox hg) | ((with_reducible refine gate_dst (N := 3) rfl ?_); refine bxE 3 #[.int .i64 a1_0, .bool a1_1, .int .i64 a1_2, .string a1_3, .string a1_4, .string a1_5, .slice A1_6 l1_6.length c1_6] 67 ?_; intro gb109 hg w14 hbox hb; have BK109 := aZ_ (hbox); have GW109 := aZ_ ((by rw [hg]; exact (below_size (bl1 HB GE108)) : w.heap.size ≤ gb109)); have GE109 := aZ_ ((by rw [hg]; exact (below_size (bl1 HB GE108)) : w.heap.size ≤ gb109)); replace HB := aZ_ (below_step (bl1 HB GE108) hb); have NB108_109 := aZ_ ((by rw [hg]; exact Nat.ne_of_lt (blk_lt (g := gb108) (o := .cells #[.slice A0_0 l0_0.length c0_0, .string a0_1, .string a0_2, .string a0_3, .string a0_4, .string a0_5, .string a0_6] 151 (0, 0)) (bk BK108)) : gb108 ≠ gb109)); have NB109_108 := aZ_ ((by rw [hg]; exact Nat.ne_of_gt (blk_lt (g := gb108) (o := .cells #[.slice A0_0 l0_0.length c0_0, .string a0_1, .string a0_2, .string a0_3, .string a0_4, .string a0_5, .string a0_6] 151 (0, 0)) (bk BK108)) : gb109 ≠ gb108)); replace BK108 := aZ_ (blk_below (g := gb108) (o := .cells #[.slice A0_0 l0_0.length c0_0, .string a0_1, .string a0_2, .string a0_3, .string a0_4, .string a0_5, .string a0_6] 151 (0, 0)) (bk BK108) hb); clear hb hbox hg) | ((with_reducible refine gate_dst (N := 4) rfl ?_); refine bxE 4 #[.int .i64 0, .bool false, .int .i64 0, .string (⟨#[]⟩ : ByteArray), .string (⟨#[]⟩ : ByteArray), .string (⟨#[]⟩ : ByteArray), .slice none 0 0] 31 ?_; intro gb110 hg w15 hbox hb; have BK110 := aZ_ (hbox); have GW110 := aZ_ ((by rw [hg]; exact (below_size (bl2 HB GE108 GE109)) : w.heap.size ≤ gb110)); have GE110 := aZ_ ((by rw [hg]; exact (below_size (bl2 HB GE108 GE109)) : w.heap.size ≤ gb110)); replace HB := aZ_ (below_step (bl2 HB GE108 GE109) hb); have NB108_110 := aZ_ ((by rw [hg]; exact Nat.ne_of_lt (blk_lt (g := gb108) (o := .cells #[.slice A0_0 l0_0.length c0_0, .string a0_1, .string a0_2, .string a0_3, .string a0_4, .string a0_5, .string a0_6] 151 (0, 0)) (bk BK108)) : gb108 ≠ gb110)); have NB110_108 := aZ_ ((by rw [hg]; exact Nat.ne_of_gt (blk_lt (g := gb108) (o := .cells #[.slice A0_0 l0_0.length c0_0, .string a0_1, .string a0_2, .string a0_3, .string a0_4, .string a0_5, .string a0_6] 151 (0, 0)) (bk BK108)) : gb110 ≠ gb108)); replace BK108 := aZ_ (blk_below (g := gb108) (o := .cells #[.slice A0_0 l0_0.length c0_0, .string a0_1, .string a0_2, .string a0_3, .string a0_4, .string a0_5, .string a0_6] 151 (0, 0)) (bk BK108) hb); have NB109_110 := aZ_ ((by rw [hg]; exact Nat.ne_of_lt (blk_lt (g := gb109) (o := .cells #[.int .i64 a1_0, .bool a1_1, .int .i64 a1_2, .string a1_3, .string a1_4, .string a1_5, .slice A1_6 l1_6.length c1_6] 67 (0, 0)) (bk BK109)) : gb109 ≠ gb110)); have NB110_109 := aZ_ ((by rw [hg]; exact Nat.ne_of_gt (blk_lt (g := gb109) (o := .cells #[.int .i64 a1_0, .bool a1_1, .int .i64 a1_2, .string a1_3, .string a1_4, .string a1_5, .slice A1_6 l1_6.length c1_6] 67 (0, 0)) (bk BK109)) : gb110 ≠ gb109)); replace BK109 := aZ_ (blk_below (g := gb109) (o := .cells #[.int .i64 a1_0, .bool a1_1, .int .i64 a1_2, .string a1_3, .string a1_4, .string a1_5, .slice A1_6 l1_6.length c1_6] 67 (0, 0)) (bk BK109) hb); clear hb hbox hg; have hnb16 := NB109_108.out; have hnc16 := NB108_109.out; have hnb17 := NB109_110.out; have hnc17 := NB110_109.out; obtain ⟨hcz18_0, hcz18_1, hcz18_2, hcz18_3, hcz18_4, hcz18_5, hcz18_6, hfz18_0, hfz18_1, hfz18_2, hfz18_3, hfz18_4, hfz18_5, hfz18_6⟩ := bc7 BK109; have hnb19 := NB110_108.out; have hnc19 := NB108_110.out; obtain ⟨hcz20_0, hcz20_1, hcz20_2, hcz20_3, hcz20_4, hcz20_5, hcz20_6, hfz20_0, hfz20_1, hfz20_2, hfz20_3, hfz20_4, hfz20_5, hfz20_6⟩ := bc7 BK110))
   refine bodyPost_ret (results_cell_row rfl _ _ gb110 31 #[.int .i64 2, .bool false, .int .i64 a1_2, .string (⟨#[]⟩ : ByteArray), .string (⟨#[]⟩ : ByteArray), .string (⟨#[]⟩ : ByteArray), .slice none 0 0] (0, 0) _ rfl (by (with_reducible repeat (first | refine blk_drewN ?_ _ | refine blk_drew ?_ | refine blk_alloc ?_ _)); refine blk_put (cs := #[.int .i64 2, .bool false, .int .i64 a1_2, .string (⟨#[]⟩ : ByteArray), .string (⟨#[]⟩ : ByteArray), .string (⟨#[]⟩ : ByteArray), .slice none 0 0]) ?_ 6 _ rfl; (with_reducible repeat (first | refine blk_drewN ?_ _ | refine blk_drew ?_ | refine blk_alloc ?_ _)); refine blk_put (cs := #[.int .i64 2, .bool false, .int .i64 a1_2, .string (⟨#[]⟩ : ByteArray), .string (⟨#[]⟩ : ByteArray), .string (⟨#[]⟩ : ByteArray), .slice none 0 0]) ?_ 5 _ rfl; (with_reducible repeat (first | refine blk_drewN ?_ _ | refine blk_drew ?_ | refine blk_alloc ?_ _)); refine blk_put (cs := #[.int .i64 2, .bool false, .int .i64 a1_2, .string (⟨#[]⟩ : ByteArray), .string (⟨#[]⟩ : ByteArray), .string (⟨#[]⟩ : ByteArray), .slice none 0 0]) ?_ 4 _ rfl; (with_reducible repeat (first | refine blk_drewN ?_ _ | refine blk_drew ?_ | refine blk_alloc ?_ _)); refine blk_put (cs := #[.int .i64 2, .bool false, .int .i64 a1_2, .string (⟨#[]⟩ : ByteArray), .string (⟨#[]⟩ : ByteArray), .string (⟨#[]⟩ : ByteArray), .slice none 0 0]) ?_ 3 _ rfl; (with_reducible repeat (first | refine blk_drewN ?_ _ | refine blk_drew ?_ | refine blk_alloc ?_ _)); refine blk_put (cs := #[.int .i64 2, .bool false, .int .i64 0, .string (⟨#[]⟩ : ByteArray), .string (⟨#[]⟩ : ByteArray), .string (⟨#[]⟩ : ByteArray), .slice none 0 0]) ?_ 2 _ rfl; (with_reducible repeat (first | refine blk_drewN ?_ _ | refine blk_drew ?_ | refine blk_alloc ?_ _)); refine blk_put (cs := #[.int .i64 2, .bool false, .int .i64 0, .string (⟨#[]⟩ : ByteArray), .string (⟨#[]⟩ : ByteArray), .string (⟨#[]⟩ : ByteArray), .slice none 0 0]) ?_ 1 _ rfl; (with_reducible repeat (first | refine blk_drewN ?_ _ | refine blk_drew ?_ | refine blk_alloc ?_ _)); refine blk_put (cs := #[.int .i64 0, .bool false, .int .i64 0, .string (⟨#[]⟩ : ByteArray), .string (⟨#[]⟩ : ByteArray), .string (⟨#[]⟩ : ByteArray), .slice none 0 0]) ?_ 0 _ rfl; (with_reducible repeat (first | refine blk_drewN ?_ _ | refine blk_drew ?_ | refine blk_alloc ?_ _)); exact BK110.out) Try.underlying31 rfl (by kernel_rfl)) rfl ?_
   exact ⟨_, by first | rfl | (simp [errW_none, errW_some] <;> rfl) | (simp [*, errW_none, errW_some] <;> rfl), by first | exact Kd.R_nil _ _ _ _ _ | exact Kd.N_nil _ _ _ _ _ | exact Kd.V_nil _ _ _ _ _ | exact Kd.Q_nil _ _ _ _ _ | exact Kd.S_nil _ _ _ _ _, bl3 HB GE108 GE109 GE110⟩
  ·
   rw [if_neg c12] at H
   have c12b0 : (a1_0 == 2) = false := beq_eq_false_iff_ne.mpr c12
   have c12b1 : (a1_0 != 2) = true := bne_iff_ne.mpr c12
   by_cases c21 : a1_0 = 3
   ·
    rw [if_pos c21] at H
    have c21b0 : (a1_0 == 3) = true := beq_iff_eq.mpr c21
    have c21b1 : (a1_0 != 3) = false := bne_eq_false_iff_eq.mpr c21
    clear c21
    simp only [Option.some.injEq, Prod.mk.injEq] at H
    obtain ⟨rfl, rfl, rfl, rfl, rfl, rfl, rfl⟩ := H
    go_enter Try.func135, Try.ntmps135
    go_wp2_with (first | ((with_reducible refine gate_dst (N := 2) rfl ?_); refine bxE 2 #[.slice A0_0 l0_0.length c0_0, .string a0_1, .string a0_2, .string a0_3, .string a0_4, .string a0_5, .string a0_6] 151 ?_; intro gb108 hg w22 hbox hb; have BK108 := aZ_ (hbox); have GW108 := aZ_ ((by rw [hg]; exact (below_size (bl HB)) : w.heap.size ≤ gb108)); have GE108 := aZ_ ((by rw [hg]; exact (below_size (bl HB)) : w.heap.size ≤ gb108)); replace HB := aZ_ (below_step (bl HB) hb); clear hb hbox hg) | ((with_reducible refine gate_dst (N := 3) rfl ?_); refine bxE 3 #[.int .i64 a1_0, .bool a1_1, .int .i64 a1_2, .string a1_3, .string a1_4, .string a1_5, .slice A1_6 l1_6.length c1_6] 67 ?_; intro gb109 hg w23 hbox hb; have BK109 := aZ_ (hbox); have GW109 := aZ_ ((by rw [hg]; exact (below_size (bl1 HB GE108)) : w.heap.size ≤ gb109)); have GE109 := aZ_ ((by rw [hg]; exact (below_size (bl1 HB GE108)) : w.heap.size ≤ gb109)); replace HB := aZ_ (below_step (bl1 HB GE108) hb); have NB108_109 := aZ_ ((by rw [hg]; exact Nat.ne_of_lt (blk_lt (g := gb108) (o := .cells #[.slice A0_0 l0_0.length c0_0, .string a0_1, .string a0_2, .string a0_3, .string a0_4, .string a0_5, .string a0_6] 151 (0, 0)) (bk BK108)) : gb108 ≠ gb109)); have NB109_108 := aZ_ ((by rw [hg]; exact Nat.ne_of_gt (blk_lt (g := gb108) (o := .cells #[.slice A0_0 l0_0.length c0_0, .string a0_1, .string a0_2, .string a0_3, .string a0_4, .string a0_5, .string a0_6] 151 (0, 0)) (bk BK108)) : gb109 ≠ gb108)); replace BK108 := aZ_ (blk_below (g := gb108) (o := .cells #[.slice A0_0 l0_0.length c0_0, .string a0_1, .string a0_2, .string a0_3, .string a0_4, .string a0_5, .string a0_6] 151 (0, 0)) (bk BK108) hb); clear hb hbox hg) | ((with_reducible refine gate_dst (N := 4) rfl ?_); refine bxE 4 #[.int .i64 0, .bool false, .int .i64 0, .string (⟨#[]⟩ : ByteArray), .string (⟨#[]⟩ : ByteArray), .string (⟨#[]⟩ : ByteArray), .slice none 0 0] 31 ?_; intro gb110 hg w24 hbox hb; have BK110 := aZ_ (hbox); have GW110 := aZ_ ((by rw [hg]; exact (below_size (bl2 HB GE108 GE109)) : w.heap.size ≤ gb110)); have GE110 := aZ_ ((by rw [hg]; exact (below_size (bl2 HB GE108 GE109)) : w.heap.size ≤ gb110)); replace HB := aZ_ (below_step (bl2 HB GE108 GE109) hb); have NB108_110 := aZ_ ((by rw [hg]; exact Nat.ne_of_lt (blk_lt (g := gb108) (o := .cells #[.slice A0_0 l0_0.length c0_0, .string a0_1, .string a0_2, .string a0_3, .string a0_4, .string a0_5, .string a0_6] 151 (0, 0)) (bk BK108)) : gb108 ≠ gb110)); have NB110_108 := aZ_ ((by rw [hg]; exact Nat.ne_of_gt (blk_lt (g := gb108) (o := .cells #[.slice A0_0 l0_0.length c0_0, .string a0_1, .string a0_2, .string a0_3, .string a0_4, .string a0_5, .string a0_6] 151 (0, 0)) (bk BK108)) : gb110 ≠ gb108)); replace BK108 := aZ_ (blk_below (g := gb108) (o := .cells #[.slice A0_0 l0_0.length c0_0, .string a0_1, .string a0_2, .string a0_3, .string a0_4, .string a0_5, .string a0_6] 151 (0, 0)) (bk BK108) hb); have NB109_110 := aZ_ ((by rw [hg]; exact Nat.ne_of_lt (blk_lt (g := gb109) (o := .cells #[.int .i64 a1_0, .bool a1_1, .int .i64 a1_2, .string a1_3, .string a1_4, .string a1_5, .slice A1_6 l1_6.length c1_6] 67 (0, 0)) (bk BK109)) : gb109 ≠ gb110)); have NB110_109 := aZ_ ((by rw [hg]; exact Nat.ne_of_gt (blk_lt (g := gb109) (o := .cells #[.int .i64 a1_0, .bool a1_1, .int .i64 a1_2, .string a1_3, .string a1_4, .string a1_5, .slice A1_6 l1_6.length c1_6] 67 (0, 0)) (bk BK109)) : gb110 ≠ gb109)); replace BK109 := aZ_ (blk_below (g := gb109) (o := .cells #[.int .i64 a1_0, .bool a1_1, .int .i64 a1_2, .string a1_3, .string a1_4, .string a1_5, .slice A1_6 l1_6.length c1_6] 67 (0, 0)) (bk BK109) hb); clear hb hbox hg; have hnb25 := NB109_108.out; have hnc25 := NB108_109.out; have hnb26 := NB109_110.out; have hnc26 := NB110_109.out; obtain ⟨hcz27_0, hcz27_1, hcz27_2, hcz27_3, hcz27_4, hcz27_5, hcz27_6, hfz27_0, hfz27_1, hfz27_2, hfz27_3, hfz27_4, hfz27_5, hfz27_6⟩ := bc7 BK109; have hnb28 := NB110_108.out; have hnc28 := NB108_110.out; obtain ⟨hcz29_0, hcz29_1, hcz29_2, hcz29_3, hcz29_4, hcz29_5, hcz29_6, hfz29_0, hfz29_1, hfz29_2, hfz29_3, hfz29_4, hfz29_5, hfz29_6⟩ := bc7 BK110))
    refine bodyPost_ret (results_cell_row rfl _ _ gb110 31 #[.int .i64 3, .bool false, .int .i64 0, .string a1_3, .string (⟨#[]⟩ : ByteArray), .string (⟨#[]⟩ : ByteArray), .slice none 0 0] (0, 0) _ rfl (by (with_reducible repeat (first | refine blk_drewN ?_ _ | refine blk_drew ?_ | refine blk_alloc ?_ _)); refine blk_put (cs := #[.int .i64 3, .bool false, .int .i64 0, .string a1_3, .string (⟨#[]⟩ : ByteArray), .string (⟨#[]⟩ : ByteArray), .slice none 0 0]) ?_ 6 _ rfl; (with_reducible repeat (first | refine blk_drewN ?_ _ | refine blk_drew ?_ | refine blk_alloc ?_ _)); refine blk_put (cs := #[.int .i64 3, .bool false, .int .i64 0, .string a1_3, .string (⟨#[]⟩ : ByteArray), .string (⟨#[]⟩ : ByteArray), .slice none 0 0]) ?_ 5 _ rfl; (with_reducible repeat (first | refine blk_drewN ?_ _ | refine blk_drew ?_ | refine blk_alloc ?_ _)); refine blk_put (cs := #[.int .i64 3, .bool false, .int .i64 0, .string a1_3, .string (⟨#[]⟩ : ByteArray), .string (⟨#[]⟩ : ByteArray), .slice none 0 0]) ?_ 4 _ rfl; (with_reducible repeat (first | refine blk_drewN ?_ _ | refine blk_drew ?_ | refine blk_alloc ?_ _)); refine blk_put (cs := #[.int .i64 3, .bool false, .int .i64 0, .string (⟨#[]⟩ : ByteArray), .string (⟨#[]⟩ : ByteArray), .string (⟨#[]⟩ : ByteArray), .slice none 0 0]) ?_ 3 _ rfl; (with_reducible repeat (first | refine blk_drewN ?_ _ | refine blk_drew ?_ | refine blk_alloc ?_ _)); refine blk_put (cs := #[.int .i64 3, .bool false, .int .i64 0, .string (⟨#[]⟩ : ByteArray), .string (⟨#[]⟩ : ByteArray), .string (⟨#[]⟩ : ByteArray), .slice none 0 0]) ?_ 2 _ rfl; (with_reducible repeat (first | refine blk_drewN ?_ _ | refine blk_drew ?_ | refine blk_alloc ?_ _)); refine blk_put (cs := #[.int .i64 3, .bool false, .int .i64 0, .string (⟨#[]⟩ : ByteArray), .string (⟨#[]⟩ : ByteArray), .string (⟨#[]⟩ : ByteArray), .slice none 0 0]) ?_ 1 _ rfl; (with_reducible repeat (first | refine blk_drewN ?_ _ | refine blk_drew ?_ | refine blk_alloc ?_ _)); refine blk_put (cs := #[.int .i64 0, .bool false, .int .i64 0, .string (⟨#[]⟩ : ByteArray), .string (⟨#[]⟩ : ByteArray), .string (⟨#[]⟩ : ByteArray), .slice none 0 0]) ?_ 0 _ rfl; (with_reducible repeat (first | refine blk_drewN ?_ _ | refine blk_drew ?_ | refine blk_alloc ?_ _)); exact BK110.out) Try.underlying31 rfl (by kernel_rfl)) rfl ?_
    exact ⟨_, by first | rfl | (simp [errW_none, errW_some] <;> rfl) | (simp [*, errW_none, errW_some] <;> rfl), by first | exact Kd.R_nil _ _ _ _ _ | exact Kd.N_nil _ _ _ _ _ | exact Kd.V_nil _ _ _ _ _ | exact Kd.Q_nil _ _ _ _ _ | exact Kd.S_nil _ _ _ _ _, bl3 HB GE108 GE109 GE110⟩
   ·
    rw [if_neg c21] at H
    have c21b0 : (a1_0 == 3) = false := beq_eq_false_iff_ne.mpr c21
    have c21b1 : (a1_0 != 3) = true := bne_iff_ne.mpr c21
    by_cases c30 : a1_0 = 4
    ·
     rw [if_pos c30] at H
     have c30b0 : (a1_0 == 4) = true := beq_iff_eq.mpr c30
     have c30b1 : (a1_0 != 4) = false := bne_eq_false_iff_eq.mpr c30
     clear c30
     simp only [Option.some.injEq, Prod.mk.injEq] at H
     obtain ⟨rfl, rfl, rfl, rfl, rfl, rfl, rfl⟩ := H
     go_enter Try.func135, Try.ntmps135
     go_wp2_with (first | ((with_reducible refine gate_dst (N := 2) rfl ?_); refine bxE 2 #[.slice A0_0 l0_0.length c0_0, .string a0_1, .string a0_2, .string a0_3, .string a0_4, .string a0_5, .string a0_6] 151 ?_; intro gb108 hg w31 hbox hb; have BK108 := aZ_ (hbox); have GW108 := aZ_ ((by rw [hg]; exact (below_size (bl HB)) : w.heap.size ≤ gb108)); have GE108 := aZ_ ((by rw [hg]; exact (below_size (bl HB)) : w.heap.size ≤ gb108)); replace HB := aZ_ (below_step (bl HB) hb); clear hb hbox hg) | ((with_reducible refine gate_dst (N := 3) rfl ?_); refine bxE 3 #[.int .i64 a1_0, .bool a1_1, .int .i64 a1_2, .string a1_3, .string a1_4, .string a1_5, .slice A1_6 l1_6.length c1_6] 67 ?_; intro gb109 hg w32 hbox hb; have BK109 := aZ_ (hbox); have GW109 := aZ_ ((by rw [hg]; exact (below_size (bl1 HB GE108)) : w.heap.size ≤ gb109)); have GE109 := aZ_ ((by rw [hg]; exact (below_size (bl1 HB GE108)) : w.heap.size ≤ gb109)); replace HB := aZ_ (below_step (bl1 HB GE108) hb); have NB108_109 := aZ_ ((by rw [hg]; exact Nat.ne_of_lt (blk_lt (g := gb108) (o := .cells #[.slice A0_0 l0_0.length c0_0, .string a0_1, .string a0_2, .string a0_3, .string a0_4, .string a0_5, .string a0_6] 151 (0, 0)) (bk BK108)) : gb108 ≠ gb109)); have NB109_108 := aZ_ ((by rw [hg]; exact Nat.ne_of_gt (blk_lt (g := gb108) (o := .cells #[.slice A0_0 l0_0.length c0_0, .string a0_1, .string a0_2, .string a0_3, .string a0_4, .string a0_5, .string a0_6] 151 (0, 0)) (bk BK108)) : gb109 ≠ gb108)); replace BK108 := aZ_ (blk_below (g := gb108) (o := .cells #[.slice A0_0 l0_0.length c0_0, .string a0_1, .string a0_2, .string a0_3, .string a0_4, .string a0_5, .string a0_6] 151 (0, 0)) (bk BK108) hb); clear hb hbox hg) | ((with_reducible refine gate_dst (N := 4) rfl ?_); refine bxE 4 #[.int .i64 0, .bool false, .int .i64 0, .string (⟨#[]⟩ : ByteArray), .string (⟨#[]⟩ : ByteArray), .string (⟨#[]⟩ : ByteArray), .slice none 0 0] 31 ?_; intro gb110 hg w33 hbox hb; have BK110 := aZ_ (hbox); have GW110 := aZ_ ((by rw [hg]; exact (below_size (bl2 HB GE108 GE109)) : w.heap.size ≤ gb110)); have GE110 := aZ_ ((by rw [hg]; exact (below_size (bl2 HB GE108 GE109)) : w.heap.size ≤ gb110)); replace HB := aZ_ (below_step (bl2 HB GE108 GE109) hb); have NB108_110 := aZ_ ((by rw [hg]; exact Nat.ne_of_lt (blk_lt (g := gb108) (o := .cells #[.slice A0_0 l0_0.length c0_0, .string a0_1, .string a0_2, .string a0_3, .string a0_4, .string a0_5, .string a0_6] 151 (0, 0)) (bk BK108)) : gb108 ≠ gb110)); have NB110_108 := aZ_ ((by rw [hg]; exact Nat.ne_of_gt (blk_lt (g := gb108) (o := .cells #[.slice A0_0 l0_0.length c0_0, .string a0_1, .string a0_2, .string a0_3, .string a0_4, .string a0_5, .string a0_6] 151 (0, 0)) (bk BK108)) : gb110 ≠ gb108)); replace BK108 := aZ_ (blk_below (g := gb108) (o := .cells #[.slice A0_0 l0_0.length c0_0, .string a0_1, .string a0_2, .string a0_3, .string a0_4, .string a0_5, .string a0_6] 151 (0, 0)) (bk BK108) hb); have NB109_110 := aZ_ ((by rw [hg]; exact Nat.ne_of_lt (blk_lt (g := gb109) (o := .cells #[.int .i64 a1_0, .bool a1_1, .int .i64 a1_2, .string a1_3, .string a1_4, .string a1_5, .slice A1_6 l1_6.length c1_6] 67 (0, 0)) (bk BK109)) : gb109 ≠ gb110)); have NB110_109 := aZ_ ((by rw [hg]; exact Nat.ne_of_gt (blk_lt (g := gb109) (o := .cells #[.int .i64 a1_0, .bool a1_1, .int .i64 a1_2, .string a1_3, .string a1_4, .string a1_5, .slice A1_6 l1_6.length c1_6] 67 (0, 0)) (bk BK109)) : gb110 ≠ gb109)); replace BK109 := aZ_ (blk_below (g := gb109) (o := .cells #[.int .i64 a1_0, .bool a1_1, .int .i64 a1_2, .string a1_3, .string a1_4, .string a1_5, .slice A1_6 l1_6.length c1_6] 67 (0, 0)) (bk BK109) hb); clear hb hbox hg; have hnb34 := NB109_108.out; have hnc34 := NB108_109.out; have hnb35 := NB109_110.out; have hnc35 := NB110_109.out; obtain ⟨hcz36_0, hcz36_1, hcz36_2, hcz36_3, hcz36_4, hcz36_5, hcz36_6, hfz36_0, hfz36_1, hfz36_2, hfz36_3, hfz36_4, hfz36_5, hfz36_6⟩ := bc7 BK109; have hnb37 := NB110_108.out; have hnc37 := NB108_110.out; obtain ⟨hcz38_0, hcz38_1, hcz38_2, hcz38_3, hcz38_4, hcz38_5, hcz38_6, hfz38_0, hfz38_1, hfz38_2, hfz38_3, hfz38_4, hfz38_5, hfz38_6⟩ := bc7 BK110))
     refine bodyPost_ret (results_cell_row rfl _ _ gb110 31 #[.int .i64 4, .bool false, .int .i64 0, .string (⟨#[]⟩ : ByteArray), .string a1_4, .string a1_5, .slice none 0 0] (0, 0) _ rfl (by (with_reducible repeat (first | refine blk_drewN ?_ _ | refine blk_drew ?_ | refine blk_alloc ?_ _)); refine blk_put (cs := #[.int .i64 4, .bool false, .int .i64 0, .string (⟨#[]⟩ : ByteArray), .string a1_4, .string a1_5, .slice none 0 0]) ?_ 6 _ rfl; (with_reducible repeat (first | refine blk_drewN ?_ _ | refine blk_drew ?_ | refine blk_alloc ?_ _)); refine blk_put (cs := #[.int .i64 4, .bool false, .int .i64 0, .string (⟨#[]⟩ : ByteArray), .string a1_4, .string (⟨#[]⟩ : ByteArray), .slice none 0 0]) ?_ 5 _ rfl; (with_reducible repeat (first | refine blk_drewN ?_ _ | refine blk_drew ?_ | refine blk_alloc ?_ _)); refine blk_put (cs := #[.int .i64 4, .bool false, .int .i64 0, .string (⟨#[]⟩ : ByteArray), .string (⟨#[]⟩ : ByteArray), .string (⟨#[]⟩ : ByteArray), .slice none 0 0]) ?_ 4 _ rfl; (with_reducible repeat (first | refine blk_drewN ?_ _ | refine blk_drew ?_ | refine blk_alloc ?_ _)); refine blk_put (cs := #[.int .i64 4, .bool false, .int .i64 0, .string (⟨#[]⟩ : ByteArray), .string (⟨#[]⟩ : ByteArray), .string (⟨#[]⟩ : ByteArray), .slice none 0 0]) ?_ 3 _ rfl; (with_reducible repeat (first | refine blk_drewN ?_ _ | refine blk_drew ?_ | refine blk_alloc ?_ _)); refine blk_put (cs := #[.int .i64 4, .bool false, .int .i64 0, .string (⟨#[]⟩ : ByteArray), .string (⟨#[]⟩ : ByteArray), .string (⟨#[]⟩ : ByteArray), .slice none 0 0]) ?_ 2 _ rfl; (with_reducible repeat (first | refine blk_drewN ?_ _ | refine blk_drew ?_ | refine blk_alloc ?_ _)); refine blk_put (cs := #[.int .i64 4, .bool false, .int .i64 0, .string (⟨#[]⟩ : ByteArray), .string (⟨#[]⟩ : ByteArray), .string (⟨#[]⟩ : ByteArray), .slice none 0 0]) ?_ 1 _ rfl; (with_reducible repeat (first | refine blk_drewN ?_ _ | refine blk_drew ?_ | refine blk_alloc ?_ _)); refine blk_put (cs := #[.int .i64 0, .bool false, .int .i64 0, .string (⟨#[]⟩ : ByteArray), .string (⟨#[]⟩ : ByteArray), .string (⟨#[]⟩ : ByteArray), .slice none 0 0]) ?_ 0 _ rfl; (with_reducible repeat (first | refine blk_drewN ?_ _ | refine blk_drew ?_ | refine blk_alloc ?_ _)); exact BK110.out) Try.underlying31 rfl (by kernel_rfl)) rfl ?_
     exact ⟨_, by first | rfl | (simp [errW_none, errW_some] <;> rfl) | (simp [*, errW_none, errW_some] <;> rfl), by first | exact Kd.R_nil _ _ _ _ _ | exact Kd.N_nil _ _ _ _ _ | exact Kd.V_nil _ _ _ _ _ | exact Kd.Q_nil _ _ _ _ _ | exact Kd.S_nil _ _ _ _ _, bl3 HB GE108 GE109 GE110⟩
    ·
     rw [if_neg c30] at H
     have c30b0 : (a1_0 == 4) = false := beq_eq_false_iff_ne.mpr c30
     have c30b1 : (a1_0 != 4) = true := bne_iff_ne.mpr c30
     by_cases c39 : a1_3.toList = ([112, 114, 105, 110, 99, 105, 112, 97, 108] : List UInt8)
     ·
      rw [if_pos c39] at H
      have c39b0 : (a1_3.toList == ([112, 114, 105, 110, 99, 105, 112, 97, 108] : List UInt8)) = true := beq_iff_eq.mpr c39
      have c39b1 : (a1_3.toList != ([112, 114, 105, 110, 99, 105, 112, 97, 108] : List UInt8)) = false := bne_eq_false_iff_eq.mpr c39
      clear c39
      simp only [Option.some.injEq, Prod.mk.injEq] at H
      obtain ⟨rfl, rfl, rfl, rfl, rfl, rfl, rfl⟩ := H
      go_enter Try.func135, Try.ntmps135
      go_wp2_with (first | ((with_reducible refine gate_dst (N := 2) rfl ?_); refine bxE 2 #[.slice A0_0 l0_0.length c0_0, .string a0_1, .string a0_2, .string a0_3, .string a0_4, .string a0_5, .string a0_6] 151 ?_; intro gb108 hg w40 hbox hb; have BK108 := aZ_ (hbox); have GW108 := aZ_ ((by rw [hg]; exact (below_size (bl HB)) : w.heap.size ≤ gb108)); have GE108 := aZ_ ((by rw [hg]; exact (below_size (bl HB)) : w.heap.size ≤ gb108)); replace HB := aZ_ (below_step (bl HB) hb); clear hb hbox hg) | ((with_reducible refine gate_dst (N := 3) rfl ?_); refine bxE 3 #[.int .i64 a1_0, .bool a1_1, .int .i64 a1_2, .string a1_3, .string a1_4, .string a1_5, .slice A1_6 l1_6.length c1_6] 67 ?_; intro gb109 hg w41 hbox hb; have BK109 := aZ_ (hbox); have GW109 := aZ_ ((by rw [hg]; exact (below_size (bl1 HB GE108)) : w.heap.size ≤ gb109)); have GE109 := aZ_ ((by rw [hg]; exact (below_size (bl1 HB GE108)) : w.heap.size ≤ gb109)); replace HB := aZ_ (below_step (bl1 HB GE108) hb); have NB108_109 := aZ_ ((by rw [hg]; exact Nat.ne_of_lt (blk_lt (g := gb108) (o := .cells #[.slice A0_0 l0_0.length c0_0, .string a0_1, .string a0_2, .string a0_3, .string a0_4, .string a0_5, .string a0_6] 151 (0, 0)) (bk BK108)) : gb108 ≠ gb109)); have NB109_108 := aZ_ ((by rw [hg]; exact Nat.ne_of_gt (blk_lt (g := gb108) (o := .cells #[.slice A0_0 l0_0.length c0_0, .string a0_1, .string a0_2, .string a0_3, .string a0_4, .string a0_5, .string a0_6] 151 (0, 0)) (bk BK108)) : gb109 ≠ gb108)); replace BK108 := aZ_ (blk_below (g := gb108) (o := .cells #[.slice A0_0 l0_0.length c0_0, .string a0_1, .string a0_2, .string a0_3, .string a0_4, .string a0_5, .string a0_6] 151 (0, 0)) (bk BK108) hb); clear hb hbox hg) | ((with_reducible refine gate_dst (N := 4) rfl ?_); refine bxE 4 #[.int .i64 0, .bool false, .int .i64 0, .string (⟨#[]⟩ : ByteArray), .string (⟨#[]⟩ : ByteArray), .string (⟨#[]⟩ : ByteArray), .slice none 0 0] 31 ?_; intro gb110 hg w42 hbox hb; have BK110 := aZ_ (hbox); have GW110 := aZ_ ((by rw [hg]; exact (below_size (bl2 HB GE108 GE109)) : w.heap.size ≤ gb110)); have GE110 := aZ_ ((by rw [hg]; exact (below_size (bl2 HB GE108 GE109)) : w.heap.size ≤ gb110)); replace HB := aZ_ (below_step (bl2 HB GE108 GE109) hb); have NB108_110 := aZ_ ((by rw [hg]; exact Nat.ne_of_lt (blk_lt (g := gb108) (o := .cells #[.slice A0_0 l0_0.length c0_0, .string a0_1, .string a0_2, .string a0_3, .string a0_4, .string a0_5, .string a0_6] 151 (0, 0)) (bk BK108)) : gb108 ≠ gb110)); have NB110_108 := aZ_ ((by rw [hg]; exact Nat.ne_of_gt (blk_lt (g := gb108) (o := .cells #[.slice A0_0 l0_0.length c0_0, .string a0_1, .string a0_2, .string a0_3, .string a0_4, .string a0_5, .string a0_6] 151 (0, 0)) (bk BK108)) : gb110 ≠ gb108)); replace BK108 := aZ_ (blk_below (g := gb108) (o := .cells #[.slice A0_0 l0_0.length c0_0, .string a0_1, .string a0_2, .string a0_3, .string a0_4, .string a0_5, .string a0_6] 151 (0, 0)) (bk BK108) hb); have NB109_110 := aZ_ ((by rw [hg]; exact Nat.ne_of_lt (blk_lt (g := gb109) (o := .cells #[.int .i64 a1_0, .bool a1_1, .int .i64 a1_2, .string a1_3, .string a1_4, .string a1_5, .slice A1_6 l1_6.length c1_6] 67 (0, 0)) (bk BK109)) : gb109 ≠ gb110)); have NB110_109 := aZ_ ((by rw [hg]; exact Nat.ne_of_gt (blk_lt (g := gb109) (o := .cells #[.int .i64 a1_0, .bool a1_1, .int .i64 a1_2, .string a1_3, .string a1_4, .string a1_5, .slice A1_6 l1_6.length c1_6] 67 (0, 0)) (bk BK109)) : gb110 ≠ gb109)); replace BK109 := aZ_ (blk_below (g := gb109) (o := .cells #[.int .i64 a1_0, .bool a1_1, .int .i64 a1_2, .string a1_3, .string a1_4, .string a1_5, .slice A1_6 l1_6.length c1_6] 67 (0, 0)) (bk BK109) hb); clear hb hbox hg; have hnb43 := NB109_108.out; have hnc43 := NB108_109.out; have hnb44 := NB109_110.out; have hnc44 := NB110_109.out; obtain ⟨hcz45_0, hcz45_1, hcz45_2, hcz45_3, hcz45_4, hcz45_5, hcz45_6, hfz45_0, hfz45_1, hfz45_2, hfz45_3, hfz45_4, hfz45_5, hfz45_6⟩ := bc7 BK109; have hnb46 := NB108_110.out; have hnc46 := NB110_108.out; obtain ⟨hcz47_0, hcz47_1, hcz47_2, hcz47_3, hcz47_4, hcz47_5, hcz47_6, hfz47_0, hfz47_1, hfz47_2, hfz47_3, hfz47_4, hfz47_5, hfz47_6⟩ := bc7 BK108; obtain ⟨hcz48_0, hcz48_1, hcz48_2, hcz48_3, hcz48_4, hcz48_5, hcz48_6, hfz48_0, hfz48_1, hfz48_2, hfz48_3, hfz48_4, hfz48_5, hfz48_6⟩ := bc7 BK110))
      refine bodyPost_ret (results_cell_row rfl _ _ gb110 31 #[.int .i64 4, .bool false, .int .i64 0, .string (⟨#[]⟩ : ByteArray), .string a0_1, .string a0_2, .slice none 0 0] (0, 0) _ rfl (by (with_reducible repeat (first | refine blk_drewN ?_ _ | refine blk_drew ?_ | refine blk_alloc ?_ _)); refine blk_put (cs := #[.int .i64 4, .bool false, .int .i64 0, .string (⟨#[]⟩ : ByteArray), .string a0_1, .string a0_2, .slice none 0 0]) ?_ 6 _ rfl; (with_reducible repeat (first | refine blk_drewN ?_ _ | refine blk_drew ?_ | refine blk_alloc ?_ _)); refine blk_put (cs := #[.int .i64 4, .bool false, .int .i64 0, .string (⟨#[]⟩ : ByteArray), .string a0_1, .string (⟨#[]⟩ : ByteArray), .slice none 0 0]) ?_ 5 _ rfl; (with_reducible repeat (first | refine blk_drewN ?_ _ | refine blk_drew ?_ | refine blk_alloc ?_ _)); refine blk_put (cs := #[.int .i64 4, .bool false, .int .i64 0, .string (⟨#[]⟩ : ByteArray), .string (⟨#[]⟩ : ByteArray), .string (⟨#[]⟩ : ByteArray), .slice none 0 0]) ?_ 4 _ rfl; (with_reducible repeat (first | refine blk_drewN ?_ _ | refine blk_drew ?_ | refine blk_alloc ?_ _)); refine blk_put (cs := #[.int .i64 4, .bool false, .int .i64 0, .string (⟨#[]⟩ : ByteArray), .string (⟨#[]⟩ : ByteArray), .string (⟨#[]⟩ : ByteArray), .slice none 0 0]) ?_ 3 _ rfl; (with_reducible repeat (first | refine blk_drewN ?_ _ | refine blk_drew ?_ | refine blk_alloc ?_ _)); refine blk_put (cs := #[.int .i64 4, .bool false, .int .i64 0, .string (⟨#[]⟩ : ByteArray), .string (⟨#[]⟩ : ByteArray), .string (⟨#[]⟩ : ByteArray), .slice none 0 0]) ?_ 2 _ rfl; (with_reducible repeat (first | refine blk_drewN ?_ _ | refine blk_drew ?_ | refine blk_alloc ?_ _)); refine blk_put (cs := #[.int .i64 4, .bool false, .int .i64 0, .string (⟨#[]⟩ : ByteArray), .string (⟨#[]⟩ : ByteArray), .string (⟨#[]⟩ : ByteArray), .slice none 0 0]) ?_ 1 _ rfl; (with_reducible repeat (first | refine blk_drewN ?_ _ | refine blk_drew ?_ | refine blk_alloc ?_ _)); refine blk_put (cs := #[.int .i64 0, .bool false, .int .i64 0, .string (⟨#[]⟩ : ByteArray), .string (⟨#[]⟩ : ByteArray), .string (⟨#[]⟩ : ByteArray), .slice none 0 0]) ?_ 0 _ rfl; (with_reducible repeat (first | refine blk_drewN ?_ _ | refine blk_drew ?_ | refine blk_alloc ?_ _)); exact BK110.out) Try.underlying31 rfl (by kernel_rfl)) rfl ?_
      exact ⟨_, by first | rfl | (simp [errW_none, errW_some] <;> rfl) | (simp [*, errW_none, errW_some] <;> rfl), by first | exact Kd.R_nil _ _ _ _ _ | exact Kd.N_nil _ _ _ _ _ | exact Kd.V_nil _ _ _ _ _ | exact Kd.Q_nil _ _ _ _ _ | exact Kd.S_nil _ _ _ _ _, bl3 HB GE108 GE109 GE110⟩
     ·
      rw [if_neg c39] at H
      have c39b0 : (a1_3.toList == ([112, 114, 105, 110, 99, 105, 112, 97, 108] : List UInt8)) = false := beq_eq_false_iff_ne.mpr c39
      have c39b1 : (a1_3.toList != ([112, 114, 105, 110, 99, 105, 112, 97, 108] : List UInt8)) = true := bne_iff_ne.mpr c39
      by_cases c49 : a1_3.toList = ([97, 99, 116, 105, 111, 110] : List UInt8)
      ·
       rw [if_pos c49] at H
       have c49b0 : (a1_3.toList == ([97, 99, 116, 105, 111, 110] : List UInt8)) = true := beq_iff_eq.mpr c49
       have c49b1 : (a1_3.toList != ([97, 99, 116, 105, 111, 110] : List UInt8)) = false := bne_eq_false_iff_eq.mpr c49
       clear c49
       simp only [Option.some.injEq, Prod.mk.injEq] at H
       obtain ⟨rfl, rfl, rfl, rfl, rfl, rfl, rfl⟩ := H
       go_enter Try.func135, Try.ntmps135
       go_wp2_with (first | ((with_reducible refine gate_dst (N := 2) rfl ?_); refine bxE 2 #[.slice A0_0 l0_0.length c0_0, .string a0_1, .string a0_2, .string a0_3, .string a0_4, .string a0_5, .string a0_6] 151 ?_; intro gb108 hg w50 hbox hb; have BK108 := aZ_ (hbox); have GW108 := aZ_ ((by rw [hg]; exact (below_size (bl HB)) : w.heap.size ≤ gb108)); have GE108 := aZ_ ((by rw [hg]; exact (below_size (bl HB)) : w.heap.size ≤ gb108)); replace HB := aZ_ (below_step (bl HB) hb); clear hb hbox hg) | ((with_reducible refine gate_dst (N := 3) rfl ?_); refine bxE 3 #[.int .i64 a1_0, .bool a1_1, .int .i64 a1_2, .string a1_3, .string a1_4, .string a1_5, .slice A1_6 l1_6.length c1_6] 67 ?_; intro gb109 hg w51 hbox hb; have BK109 := aZ_ (hbox); have GW109 := aZ_ ((by rw [hg]; exact (below_size (bl1 HB GE108)) : w.heap.size ≤ gb109)); have GE109 := aZ_ ((by rw [hg]; exact (below_size (bl1 HB GE108)) : w.heap.size ≤ gb109)); replace HB := aZ_ (below_step (bl1 HB GE108) hb); have NB108_109 := aZ_ ((by rw [hg]; exact Nat.ne_of_lt (blk_lt (g := gb108) (o := .cells #[.slice A0_0 l0_0.length c0_0, .string a0_1, .string a0_2, .string a0_3, .string a0_4, .string a0_5, .string a0_6] 151 (0, 0)) (bk BK108)) : gb108 ≠ gb109)); have NB109_108 := aZ_ ((by rw [hg]; exact Nat.ne_of_gt (blk_lt (g := gb108) (o := .cells #[.slice A0_0 l0_0.length c0_0, .string a0_1, .string a0_2, .string a0_3, .string a0_4, .string a0_5, .string a0_6] 151 (0, 0)) (bk BK108)) : gb109 ≠ gb108)); replace BK108 := aZ_ (blk_below (g := gb108) (o := .cells #[.slice A0_0 l0_0.length c0_0, .string a0_1, .string a0_2, .string a0_3, .string a0_4, .string a0_5, .string a0_6] 151 (0, 0)) (bk BK108) hb); clear hb hbox hg) | ((with_reducible refine gate_dst (N := 4) rfl ?_); refine bxE 4 #[.int .i64 0, .bool false, .int .i64 0, .string (⟨#[]⟩ : ByteArray), .string (⟨#[]⟩ : ByteArray), .string (⟨#[]⟩ : ByteArray), .slice none 0 0] 31 ?_; intro gb110 hg w52 hbox hb; have BK110 := aZ_ (hbox); have GW110 := aZ_ ((by rw [hg]; exact (below_size (bl2 HB GE108 GE109)) : w.heap.size ≤ gb110)); have GE110 := aZ_ ((by rw [hg]; exact (below_size (bl2 HB GE108 GE109)) : w.heap.size ≤ gb110)); replace HB := aZ_ (below_step (bl2 HB GE108 GE109) hb); have NB108_110 := aZ_ ((by rw [hg]; exact Nat.ne_of_lt (blk_lt (g := gb108) (o := .cells #[.slice A0_0 l0_0.length c0_0, .string a0_1, .string a0_2, .string a0_3, .string a0_4, .string a0_5, .string a0_6] 151 (0, 0)) (bk BK108)) : gb108 ≠ gb110)); have NB110_108 := aZ_ ((by rw [hg]; exact Nat.ne_of_gt (blk_lt (g := gb108) (o := .cells #[.slice A0_0 l0_0.length c0_0, .string a0_1, .string a0_2, .string a0_3, .string a0_4, .string a0_5, .string a0_6] 151 (0, 0)) (bk BK108)) : gb110 ≠ gb108)); replace BK108 := aZ_ (blk_below (g := gb108) (o := .cells #[.slice A0_0 l0_0.length c0_0, .string a0_1, .string a0_2, .string a0_3, .string a0_4, .string a0_5, .string a0_6] 151 (0, 0)) (bk BK108) hb); have NB109_110 := aZ_ ((by rw [hg]; exact Nat.ne_of_lt (blk_lt (g := gb109) (o := .cells #[.int .i64 a1_0, .bool a1_1, .int .i64 a1_2, .string a1_3, .string a1_4, .string a1_5, .slice A1_6 l1_6.length c1_6] 67 (0, 0)) (bk BK109)) : gb109 ≠ gb110)); have NB110_109 := aZ_ ((by rw [hg]; exact Nat.ne_of_gt (blk_lt (g := gb109) (o := .cells #[.int .i64 a1_0, .bool a1_1, .int .i64 a1_2, .string a1_3, .string a1_4, .string a1_5, .slice A1_6 l1_6.length c1_6] 67 (0, 0)) (bk BK109)) : gb110 ≠ gb109)); replace BK109 := aZ_ (blk_below (g := gb109) (o := .cells #[.int .i64 a1_0, .bool a1_1, .int .i64 a1_2, .string a1_3, .string a1_4, .string a1_5, .slice A1_6 l1_6.length c1_6] 67 (0, 0)) (bk BK109) hb); clear hb hbox hg; have hnb53 := NB109_108.out; have hnc53 := NB108_109.out; have hnb54 := NB109_110.out; have hnc54 := NB110_109.out; obtain ⟨hcz55_0, hcz55_1, hcz55_2, hcz55_3, hcz55_4, hcz55_5, hcz55_6, hfz55_0, hfz55_1, hfz55_2, hfz55_3, hfz55_4, hfz55_5, hfz55_6⟩ := bc7 BK109; have hnb56 := NB108_110.out; have hnc56 := NB110_108.out; obtain ⟨hcz57_0, hcz57_1, hcz57_2, hcz57_3, hcz57_4, hcz57_5, hcz57_6, hfz57_0, hfz57_1, hfz57_2, hfz57_3, hfz57_4, hfz57_5, hfz57_6⟩ := bc7 BK108; obtain ⟨hcz58_0, hcz58_1, hcz58_2, hcz58_3, hcz58_4, hcz58_5, hcz58_6, hfz58_0, hfz58_1, hfz58_2, hfz58_3, hfz58_4, hfz58_5, hfz58_6⟩ := bc7 BK110))
       refine bodyPost_ret (results_cell_row rfl _ _ gb110 31 #[.int .i64 4, .bool false, .int .i64 0, .string (⟨#[]⟩ : ByteArray), .string a0_3, .string a0_4, .slice none 0 0] (0, 0) _ rfl (by (with_reducible repeat (first | refine blk_drewN ?_ _ | refine blk_drew ?_ | refine blk_alloc ?_ _)); refine blk_put (cs := #[.int .i64 4, .bool false, .int .i64 0, .string (⟨#[]⟩ : ByteArray), .string a0_3, .string a0_4, .slice none 0 0]) ?_ 6 _ rfl; (with_reducible repeat (first | refine blk_drewN ?_ _ | refine blk_drew ?_ | refine blk_alloc ?_ _)); refine blk_put (cs := #[.int .i64 4, .bool false, .int .i64 0, .string (⟨#[]⟩ : ByteArray), .string a0_3, .string (⟨#[]⟩ : ByteArray), .slice none 0 0]) ?_ 5 _ rfl; (with_reducible repeat (first | refine blk_drewN ?_ _ | refine blk_drew ?_ | refine blk_alloc ?_ _)); refine blk_put (cs := #[.int .i64 4, .bool false, .int .i64 0, .string (⟨#[]⟩ : ByteArray), .string (⟨#[]⟩ : ByteArray), .string (⟨#[]⟩ : ByteArray), .slice none 0 0]) ?_ 4 _ rfl; (with_reducible repeat (first | refine blk_drewN ?_ _ | refine blk_drew ?_ | refine blk_alloc ?_ _)); refine blk_put (cs := #[.int .i64 4, .bool false, .int .i64 0, .string (⟨#[]⟩ : ByteArray), .string (⟨#[]⟩ : ByteArray), .string (⟨#[]⟩ : ByteArray), .slice none 0 0]) ?_ 3 _ rfl; (with_reducible repeat (first | refine blk_drewN ?_ _ | refine blk_drew ?_ | refine blk_alloc ?_ _)); refine blk_put (cs := #[.int .i64 4, .bool false, .int .i64 0, .string (⟨#[]⟩ : ByteArray), .string (⟨#[]⟩ : ByteArray), .string (⟨#[]⟩ : ByteArray), .slice none 0 0]) ?_ 2 _ rfl; (with_reducible repeat (first | refine blk_drewN ?_ _ | refine blk_drew ?_ | refine blk_alloc ?_ _)); refine blk_put (cs := #[.int .i64 4, .bool false, .int .i64 0, .string (⟨#[]⟩ : ByteArray), .string (⟨#[]⟩ : ByteArray), .string (⟨#[]⟩ : ByteArray), .slice none 0 0]) ?_ 1 _ rfl; (with_reducible repeat (first | refine blk_drewN ?_ _ | refine blk_drew ?_ | refine blk_alloc ?_ _)); refine blk_put (cs := #[.int .i64 0, .bool false, .int .i64 0, .string (⟨#[]⟩ : ByteArray), .string (⟨#[]⟩ : ByteArray), .string (⟨#[]⟩ : ByteArray), .slice none 0 0]) ?_ 0 _ rfl; (with_reducible repeat (first | refine blk_drewN ?_ _ | refine blk_drew ?_ | refine blk_alloc ?_ _)); exact BK110.out) Try.underlying31 rfl (by kernel_rfl)) rfl ?_
       exact ⟨_, by first | rfl | (simp [errW_none, errW_some] <;> rfl) | (simp [*, errW_none, errW_some] <;> rfl), by first | exact Kd.R_nil _ _ _ _ _ | exact Kd.N_nil _ _ _ _ _ | exact Kd.V_nil _ _ _ _ _ | exact Kd.Q_nil _ _ _ _ _ | exact Kd.S_nil _ _ _ _ _, bl3 HB GE108 GE109 GE110⟩
      ·
       rw [if_neg c49] at H
       have c49b0 : (a1_3.toList == ([97, 99, 116, 105, 111, 110] : List UInt8)) = false := beq_eq_false_iff_ne.mpr c49
       have c49b1 : (a1_3.toList != ([97, 99, 116, 105, 111, 110] : List UInt8)) = true := bne_iff_ne.mpr c49
       simp only [Option.some.injEq, Prod.mk.injEq] at H
       obtain ⟨rfl, rfl, rfl, rfl, rfl, rfl, rfl⟩ := H
       go_enter Try.func135, Try.ntmps135
       go_wp2_with (first | ((with_reducible refine gate_dst (N := 2) rfl ?_); refine bxE 2 #[.slice A0_0 l0_0.length c0_0, .string a0_1, .string a0_2, .string a0_3, .string a0_4, .string a0_5, .string a0_6] 151 ?_; intro gb108 hg w59 hbox hb; have BK108 := aZ_ (hbox); have GW108 := aZ_ ((by rw [hg]; exact (below_size (bl HB)) : w.heap.size ≤ gb108)); have GE108 := aZ_ ((by rw [hg]; exact (below_size (bl HB)) : w.heap.size ≤ gb108)); replace HB := aZ_ (below_step (bl HB) hb); clear hb hbox hg) | ((with_reducible refine gate_dst (N := 3) rfl ?_); refine bxE 3 #[.int .i64 a1_0, .bool a1_1, .int .i64 a1_2, .string a1_3, .string a1_4, .string a1_5, .slice A1_6 l1_6.length c1_6] 67 ?_; intro gb109 hg w60 hbox hb; have BK109 := aZ_ (hbox); have GW109 := aZ_ ((by rw [hg]; exact (below_size (bl1 HB GE108)) : w.heap.size ≤ gb109)); have GE109 := aZ_ ((by rw [hg]; exact (below_size (bl1 HB GE108)) : w.heap.size ≤ gb109)); replace HB := aZ_ (below_step (bl1 HB GE108) hb); have NB108_109 := aZ_ ((by rw [hg]; exact Nat.ne_of_lt (blk_lt (g := gb108) (o := .cells #[.slice A0_0 l0_0.length c0_0, .string a0_1, .string a0_2, .string a0_3, .string a0_4, .string a0_5, .string a0_6] 151 (0, 0)) (bk BK108)) : gb108 ≠ gb109)); have NB109_108 := aZ_ ((by rw [hg]; exact Nat.ne_of_gt (blk_lt (g := gb108) (o := .cells #[.slice A0_0 l0_0.length c0_0, .string a0_1, .string a0_2, .string a0_3, .string a0_4, .string a0_5, .string a0_6] 151 (0, 0)) (bk BK108)) : gb109 ≠ gb108)); replace BK108 := aZ_ (blk_below (g := gb108) (o := .cells #[.slice A0_0 l0_0.length c0_0, .string a0_1, .string a0_2, .string a0_3, .string a0_4, .string a0_5, .string a0_6] 151 (0, 0)) (bk BK108) hb); clear hb hbox hg) | ((with_reducible refine gate_dst (N := 4) rfl ?_); refine bxE 4 #[.int .i64 0, .bool false, .int .i64 0, .string (⟨#[]⟩ : ByteArray), .string (⟨#[]⟩ : ByteArray), .string (⟨#[]⟩ : ByteArray), .slice none 0 0] 31 ?_; intro gb110 hg w61 hbox hb; have BK110 := aZ_ (hbox); have GW110 := aZ_ ((by rw [hg]; exact (below_size (bl2 HB GE108 GE109)) : w.heap.size ≤ gb110)); have GE110 := aZ_ ((by rw [hg]; exact (below_size (bl2 HB GE108 GE109)) : w.heap.size ≤ gb110)); replace HB := aZ_ (below_step (bl2 HB GE108 GE109) hb); have NB108_110 := aZ_ ((by rw [hg]; exact Nat.ne_of_lt (blk_lt (g := gb108) (o := .cells #[.slice A0_0 l0_0.length c0_0, .string a0_1, .string a0_2, .string a0_3, .string a0_4, .string a0_5, .string a0_6] 151 (0, 0)) (bk BK108)) : gb108 ≠ gb110)); have NB110_108 := aZ_ ((by rw [hg]; exact Nat.ne_of_gt (blk_lt (g := gb108) (o := .cells #[.slice A0_0 l0_0.length c0_0, .string a0_1, .string a0_2, .string a0_3, .string a0_4, .string a0_5, .string a0_6] 151 (0, 0)) (bk BK108)) : gb110 ≠ gb108)); replace BK108 := aZ_ (blk_below (g := gb108) (o := .cells #[.slice A0_0 l0_0.length c0_0, .string a0_1, .string a0_2, .string a0_3, .string a0_4, .string a0_5, .string a0_6] 151 (0, 0)) (bk BK108) hb); have NB109_110 := aZ_ ((by rw [hg]; exact Nat.ne_of_lt (blk_lt (g := gb109) (o := .cells #[.int .i64 a1_0, .bool a1_1, .int .i64 a1_2, .string a1_3, .string a1_4, .string a1_5, .slice A1_6 l1_6.length c1_6] 67 (0, 0)) (bk BK109)) : gb109 ≠ gb110)); have NB110_109 := aZ_ ((by rw [hg]; exact Nat.ne_of_gt (blk_lt (g := gb109) (o := .cells #[.int .i64 a1_0, .bool a1_1, .int .i64 a1_2, .string a1_3, .string a1_4, .string a1_5, .slice A1_6 l1_6.length c1_6] 67 (0, 0)) (bk BK109)) : gb110 ≠ gb109)); replace BK109 := aZ_ (blk_below (g := gb109) (o := .cells #[.int .i64 a1_0, .bool a1_1, .int .i64 a1_2, .string a1_3, .string a1_4, .string a1_5, .slice A1_6 l1_6.length c1_6] 67 (0, 0)) (bk BK109) hb); clear hb hbox hg; have hnb62 := NB109_108.out; have hnc62 := NB108_109.out; have hnb63 := NB109_110.out; have hnc63 := NB110_109.out; obtain ⟨hcz64_0, hcz64_1, hcz64_2, hcz64_3, hcz64_4, hcz64_5, hcz64_6, hfz64_0, hfz64_1, hfz64_2, hfz64_3, hfz64_4, hfz64_5, hfz64_6⟩ := bc7 BK109; have hnb65 := NB108_110.out; have hnc65 := NB110_108.out; obtain ⟨hcz66_0, hcz66_1, hcz66_2, hcz66_3, hcz66_4, hcz66_5, hcz66_6, hfz66_0, hfz66_1, hfz66_2, hfz66_3, hfz66_4, hfz66_5, hfz66_6⟩ := bc7 BK108; obtain ⟨hcz67_0, hcz67_1, hcz67_2, hcz67_3, hcz67_4, hcz67_5, hcz67_6, hfz67_0, hfz67_1, hfz67_2, hfz67_3, hfz67_4, hfz67_5, hfz67_6⟩ := bc7 BK110))
       refine bodyPost_ret (results_cell_row rfl _ _ gb110 31 #[.int .i64 4, .bool false, .int .i64 0, .string (⟨#[]⟩ : ByteArray), .string a0_5, .string a0_6, .slice none 0 0] (0, 0) _ rfl (by (with_reducible repeat (first | refine blk_drewN ?_ _ | refine blk_drew ?_ | refine blk_alloc ?_ _)); refine blk_put (cs := #[.int .i64 4, .bool false, .int .i64 0, .string (⟨#[]⟩ : ByteArray), .string a0_5, .string a0_6, .slice none 0 0]) ?_ 6 _ rfl; (with_reducible repeat (first | refine blk_drewN ?_ _ | refine blk_drew ?_ | refine blk_alloc ?_ _)); refine blk_put (cs := #[.int .i64 4, .bool false, .int .i64 0, .string (⟨#[]⟩ : ByteArray), .string a0_5, .string (⟨#[]⟩ : ByteArray), .slice none 0 0]) ?_ 5 _ rfl; (with_reducible repeat (first | refine blk_drewN ?_ _ | refine blk_drew ?_ | refine blk_alloc ?_ _)); refine blk_put (cs := #[.int .i64 4, .bool false, .int .i64 0, .string (⟨#[]⟩ : ByteArray), .string (⟨#[]⟩ : ByteArray), .string (⟨#[]⟩ : ByteArray), .slice none 0 0]) ?_ 4 _ rfl; (with_reducible repeat (first | refine blk_drewN ?_ _ | refine blk_drew ?_ | refine blk_alloc ?_ _)); refine blk_put (cs := #[.int .i64 4, .bool false, .int .i64 0, .string (⟨#[]⟩ : ByteArray), .string (⟨#[]⟩ : ByteArray), .string (⟨#[]⟩ : ByteArray), .slice none 0 0]) ?_ 3 _ rfl; (with_reducible repeat (first | refine blk_drewN ?_ _ | refine blk_drew ?_ | refine blk_alloc ?_ _)); refine blk_put (cs := #[.int .i64 4, .bool false, .int .i64 0, .string (⟨#[]⟩ : ByteArray), .string (⟨#[]⟩ : ByteArray), .string (⟨#[]⟩ : ByteArray), .slice none 0 0]) ?_ 2 _ rfl; (with_reducible repeat (first | refine blk_drewN ?_ _ | refine blk_drew ?_ | refine blk_alloc ?_ _)); refine blk_put (cs := #[.int .i64 4, .bool false, .int .i64 0, .string (⟨#[]⟩ : ByteArray), .string (⟨#[]⟩ : ByteArray), .string (⟨#[]⟩ : ByteArray), .slice none 0 0]) ?_ 1 _ rfl; (with_reducible repeat (first | refine blk_drewN ?_ _ | refine blk_drew ?_ | refine blk_alloc ?_ _)); refine blk_put (cs := #[.int .i64 0, .bool false, .int .i64 0, .string (⟨#[]⟩ : ByteArray), .string (⟨#[]⟩ : ByteArray), .string (⟨#[]⟩ : ByteArray), .slice none 0 0]) ?_ 0 _ rfl; (with_reducible repeat (first | refine blk_drewN ?_ _ | refine blk_drew ?_ | refine blk_alloc ?_ _)); exact BK110.out) Try.underlying31 rfl (by kernel_rfl)) rfl ?_
       exact ⟨_, by first | rfl | (simp [errW_none, errW_some] <;> rfl) | (simp [*, errW_none, errW_some] <;> rfl), by first | exact Kd.R_nil _ _ _ _ _ | exact Kd.N_nil _ _ _ _ _ | exact Kd.V_nil _ _ _ _ _ | exact Kd.Q_nil _ _ _ _ _ | exact Kd.S_nil _ _ _ _ _, bl3 HB GE108 GE109 GE110⟩

end Go.Proofs.Ytfmghijmcgkpiaa.GS
