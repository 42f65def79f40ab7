import Derived.Test.YtelibndkkokadaaGreatGB0
import Derived.Test.YtelibndkkokadaaGreatSqz
import Derived.Test.YtelibndkkokadaaGreatGB1
namespace Go.Proofs.YtelibndkkokadaaGreat.GB
open Go.RowKit Go.Proofs.YtelibndkkokadaaGreatW.PrintWords Go.Proofs.YtelibndkkokadaaGreatW.PrintLast Go.Proofs.YtelibndkkokadaaGreat.HandV Go.Proofs.YtelibndkkokadaaGreatW.PrintMore
attribute [local go_sem] max2_int min2_int max_two min_two max_three min_three max_four min_four   -- for this text's walks alone
set_option linter.unusedVariables false
set_option linter.unusedSimpArgs false

-- BREAK
/-! ### num_Mul: function 75 -/
def num_Mul.j0 : Nat → Int → Int → Bool → Option (Int × Int)
 | 0, _, _, _ => none
 | k + 1, x0, x1, x12 => if x12 = true then (some (0, 0)) else (if x0 = (-1) then (if x1 = (-9223372036854775808) then (some (0, 17)) else (if x1 = (-1) then (if x0 = (-9223372036854775808) then (some (0, 17)) else (if x1 = 0 then (none) else (if (wrap64 (Int.tdiv (wrap64 (x0 * x1)) x1)) = x0 then (some (wrap64 (x0 * x1), 0)) else (some (0, 17))))) else (if x1 = 0 then (none) else (if (wrap64 (Int.tdiv (wrap64 (x0 * x1)) x1)) = x0 then (some (wrap64 (x0 * x1), 0)) else (some (0, 17)))))) else (if x1 = (-1) then (if x0 = (-9223372036854775808) then (some (0, 17)) else (if x1 = 0 then (none) else (if (wrap64 (Int.tdiv (wrap64 (x0 * x1)) x1)) = x0 then (some (wrap64 (x0 * x1), 0)) else (some (0, 17))))) else (if x1 = 0 then (none) else (if (wrap64 (Int.tdiv (wrap64 (x0 * x1)) x1)) = x0 then (some (wrap64 (x0 * x1), 0)) else (some (0, 17))))))
def num_Mul.f (k : Nat) (a0 : Int) (a1 : Int) : Option (Int × Int) := if a0 = 0 then (num_Mul.j0 k a0 a1 true) else (num_Mul.j0 k a0 a1 (a1 == 0))
theorem num_Mul.mono_l : ∀ k, (∀ y0 y1 y2, LeO (num_Mul.j0 k y0 y1 y2) (num_Mul.j0 (k + 1) y0 y1 y2))
 | 0 => fun _ _ _ r h => by simp [num_Mul.j0] at h
 | k + 1 => by
  have ih0 := num_Mul.mono_l k
  ·
   intro y0 y1 y2
   unfold num_Mul.j0
   repeat' first
   | (with_reducible exact ih0 _ _ _)
   | (with_reducible exact LeO.refl _)
   | (with_reducible exact LeO.none _)
   | (with_reducible refine LeO.ite ?_ ?_)
   | (with_reducible refine LeO.bind ?_ (fun _ => ?_))
   | exact ih0 _ _ _
   | exact LeO.none _
   | refine LeO.ite ?_ ?_
   | refine LeO.bind ?_ (fun _ => ?_)
theorem num_Mul.mono : ∀ a0 a1 k, LeO (num_Mul.f k a0 a1) (num_Mul.f (k + 1) a0 a1) := by
 intro a0 a1 k
 have ih0 := num_Mul.mono_l k
 unfold num_Mul.f
 repeat' first
   | (with_reducible exact ih0 _ _ _)
   | (with_reducible exact LeO.refl _)
   | (with_reducible exact LeO.none _)
   | (with_reducible refine LeO.ite ?_ ?_)
   | (with_reducible refine LeO.bind ?_ (fun _ => ?_))
   | exact ih0 _ _ _
   | exact LeO.none _
   | refine LeO.ite ?_ ?_
   | refine LeO.bind ?_ (fun _ => ?_)
set_option maxHeartbeats 8000000 in
set_option maxRecDepth 100000 in
theorem num_Mul.calls (k : Nat) (a0 : Int) (a1 : Int) (r1 : Int) (r2 : Int) (w : World) (h : num_Mul.f k a0 a1 = some (r1, r2)) :
  Calls Tryz.prog 75 #[.int .i64 a0, .int .i64 a1] w fun e w' => e = .returned (.tuple #[.int .i64 r1, .int .i64 r2]) ∧ Drawn0 w w' := by
 have H : (if a0 = 0 then (num_Mul.j0 k a0 a1 true) else (num_Mul.j0 k a0 a1 (a1 == 0))) = some (r1, r2) := h
 clear h
 have HC3 := aZ_ H
 clear H
 go_enter Tryz.func75, Tryz.ntmps75
 go_upto_region 1 with (fail)
 go_cut [12] (fun v12 wc => ∃ (kq : Nat) (x12_2 : Bool), v12 = .bool x12_2 ∧ Aside0 (num_Mul.j0 kq a0 a1 x12_2 = some (r1, r2)) ∧ Aside0 (kq ≤ k) ∧ Drawn0 w wc)
 case first =>
  have H := HC3.out
  clear HC3
  by_cases c4 : a0 = 0
  ·
   rw [if_pos c4] at H
   have c4b0 : (a0 == 0) = true := beq_iff_eq.mpr c4
   have c4b1 : (a0 != 0) = false := bne_eq_false_iff_eq.mpr c4
   clear c4
   (first | rw [c4b0] | (simp only [i64_w, i32_w]; rw [c4b0]) | skip)
   have H' := aZ_ H
   clear H
   go_wp2
   go_meet
   case rel => exact ⟨_, (true), rf_, H', ⟨by first | omega | exact Nat.le_refl _⟩, by repeat (first | exact Drawn0.refl _ | apply Drawn0.step)⟩
  ·
   rw [if_neg c4] at H
   have c4b0 : (a0 == 0) = false := beq_eq_false_iff_ne.mpr c4
   have c4b1 : (a0 != 0) = true := bne_iff_ne.mpr c4
   (first | rw [c4b0] | (simp only [i64_w, i32_w]; rw [c4b0]) | skip)
   have H' := aZ_ H
   clear H
   go_wp2
   go_meet
   case rel => exact ⟨_, ((a1 == 0)), rf_, H', ⟨by first | omega | exact Nat.le_refl _⟩, by repeat (first | exact Drawn0.refl _ | apply Drawn0.step)⟩
 case rest =>
  clear HC3
  try clear p2
  try clear c4
  try clear c4b0
  try clear c4b1
  obtain ⟨kq, x12_2, rfl, HA, HJ2, ⟨mc2, rfl⟩⟩ := hcut
  cases kq with
  | zero => exact absurd HA.out (by simp [num_Mul.j0])
  | succ kj2 =>
   have H := HA.out
   clear HA
   simp only [num_Mul.j0] at H
   by_cases c5 : x12_2 = true
   ·
    subst c5
    have H1 : (some (0, 0)) = some (r1, r2) := by rw [if_pos rfl] at H; exact H
    clear H
    have H := H1
    clear H1
    simp only [Option.some.injEq, Prod.mk.injEq] at H
    obtain ⟨rfl, rfl⟩ := H
    go_wp2
    go_ret2
    exact ⟨by first | rfl | (simp; done) | (simp [*]; done), by repeat (first | exact Drawn0.refl _ | apply Drawn0.step)⟩
   ·
    replace c5 := Bool.eq_false_iff.mpr c5
    subst c5
    have H1 : (if a0 = (-1) then (if a1 = (-9223372036854775808) then (some (0, 17)) else (if a1 = (-1) then (if a0 = (-9223372036854775808) then (some (0, 17)) else (if a1 = 0 then (none) else (if (wrap64 (Int.tdiv (wrap64 (a0 * a1)) a1)) = a0 then (some (wrap64 (a0 * a1), 0)) else (some (0, 17))))) else (if a1 = 0 then (none) else (if (wrap64 (Int.tdiv (wrap64 (a0 * a1)) a1)) = a0 then (some (wrap64 (a0 * a1), 0)) else (some (0, 17)))))) else (if a1 = (-1) then (if a0 = (-9223372036854775808) then (some (0, 17)) else (if a1 = 0 then (none) else (if (wrap64 (Int.tdiv (wrap64 (a0 * a1)) a1)) = a0 then (some (wrap64 (a0 * a1), 0)) else (some (0, 17))))) else (if a1 = 0 then (none) else (if (wrap64 (Int.tdiv (wrap64 (a0 * a1)) a1)) = a0 then (some (wrap64 (a0 * a1), 0)) else (some (0, 17)))))) = some (r1, r2) := by rw [if_neg (show ¬ (false = true) by decide)] at H; exact H
    clear H
    have H := H1
    clear H1
    by_cases c6 : a0 = (-1)
    ·
     rw [if_pos c6] at H
     have c6b0 : (a0 == (-1)) = true := beq_iff_eq.mpr c6
     have c6b1 : (a0 != (-1)) = false := bne_eq_false_iff_eq.mpr c6
     clear c6
     by_cases c7 : a1 = (-9223372036854775808)
     ·
      rw [if_pos c7] at H
      have c7b0 : (a1 == (-9223372036854775808)) = true := beq_iff_eq.mpr c7
      have c7b1 : (a1 != (-9223372036854775808)) = false := bne_eq_false_iff_eq.mpr c7
      clear c7
      simp only [Option.some.injEq, Prod.mk.injEq] at H
      obtain ⟨rfl, rfl⟩ := H
      go_wp2
      go_ret2
      exact ⟨by first | rfl | (simp; done) | (simp [*]; done), by repeat (first | exact Drawn0.refl _ | apply Drawn0.step)⟩
     ·
      rw [if_neg c7] at H
      have c7b0 : (a1 == (-9223372036854775808)) = false := beq_eq_false_iff_ne.mpr c7
      have c7b1 : (a1 != (-9223372036854775808)) = true := bne_iff_ne.mpr c7
      by_cases c8 : a1 = (-1)
      ·
       rw [if_pos c8] at H
       have c8b0 : (a1 == (-1)) = true := beq_iff_eq.mpr c8
       have c8b1 : (a1 != (-1)) = false := bne_eq_false_iff_eq.mpr c8
       clear c8
       by_cases c9 : a0 = (-9223372036854775808)
       ·
        rw [if_pos c9] at H
        have c9b0 : (a0 == (-9223372036854775808)) = true := beq_iff_eq.mpr c9
        have c9b1 : (a0 != (-9223372036854775808)) = false := bne_eq_false_iff_eq.mpr c9
        clear c9
        simp only [Option.some.injEq, Prod.mk.injEq] at H
        obtain ⟨rfl, rfl⟩ := H
        go_wp2
        go_ret2
        exact ⟨by first | rfl | (simp; done) | (simp [*]; done), by repeat (first | exact Drawn0.refl _ | apply Drawn0.step)⟩
       ·
        rw [if_neg c9] at H
        have c9b0 : (a0 == (-9223372036854775808)) = false := beq_eq_false_iff_ne.mpr c9
        have c9b1 : (a0 != (-9223372036854775808)) = true := bne_iff_ne.mpr c9
        by_cases c10 : a1 = 0
        ·
         rw [if_pos c10] at H
         exact absurd H (by simp)
        ·
         rw [if_neg c10] at H
         have c10b0 : (a1 == 0) = false := beq_eq_false_iff_ne.mpr c10
         have c10b1 : (a1 != 0) = true := bne_iff_ne.mpr c10
         by_cases c11 : (wrap64 (Int.tdiv (wrap64 (a0 * a1)) a1)) = a0
         ·
          rw [if_pos c11] at H
          have c11b0 : ((wrap64 (Int.tdiv (wrap64 (a0 * a1)) a1)) == a0) = true := beq_iff_eq.mpr c11
          have c11b1 : ((wrap64 (Int.tdiv (wrap64 (a0 * a1)) a1)) != a0) = false := bne_eq_false_iff_eq.mpr c11
          clear c11
          simp only [Option.some.injEq, Prod.mk.injEq] at H
          obtain ⟨rfl, rfl⟩ := H
          go_wp2
          go_ret2
          exact ⟨by first | rfl | (simp; done) | (simp [*]; done), by repeat (first | exact Drawn0.refl _ | apply Drawn0.step)⟩
         ·
          rw [if_neg c11] at H
          have c11b0 : ((wrap64 (Int.tdiv (wrap64 (a0 * a1)) a1)) == a0) = false := beq_eq_false_iff_ne.mpr c11
          have c11b1 : ((wrap64 (Int.tdiv (wrap64 (a0 * a1)) a1)) != a0) = true := bne_iff_ne.mpr c11
          simp only [Option.some.injEq, Prod.mk.injEq] at H
          obtain ⟨rfl, rfl⟩ := H
          go_wp2
          go_ret2
          exact ⟨by first | rfl | (simp; done) | (simp [*]; done), by repeat (first | exact Drawn0.refl _ | apply Drawn0.step)⟩
      ·
       rw [if_neg c8] at H
       have c8b0 : (a1 == (-1)) = false := beq_eq_false_iff_ne.mpr c8
       have c8b1 : (a1 != (-1)) = true := bne_iff_ne.mpr c8
       by_cases c12 : a1 = 0
       ·
        rw [if_pos c12] at H
        exact absurd H (by simp)
       ·
        rw [if_neg c12] at H
        have c12b0 : (a1 == 0) = false := beq_eq_false_iff_ne.mpr c12
        have c12b1 : (a1 != 0) = true := bne_iff_ne.mpr c12
        by_cases c13 : (wrap64 (Int.tdiv (wrap64 (a0 * a1)) a1)) = a0
        ·
         rw [if_pos c13] at H
         have c13b0 : ((wrap64 (Int.tdiv (wrap64 (a0 * a1)) a1)) == a0) = true := beq_iff_eq.mpr c13
         have c13b1 : ((wrap64 (Int.tdiv (wrap64 (a0 * a1)) a1)) != a0) = false := bne_eq_false_iff_eq.mpr c13
         clear c13
         simp only [Option.some.injEq, Prod.mk.injEq] at H
         obtain ⟨rfl, rfl⟩ := H
         go_wp2
         go_ret2
         exact ⟨by first | rfl | (simp; done) | (simp [*]; done), by repeat (first | exact Drawn0.refl _ | apply Drawn0.step)⟩
        ·
         rw [if_neg c13] at H
         have c13b0 : ((wrap64 (Int.tdiv (wrap64 (a0 * a1)) a1)) == a0) = false := beq_eq_false_iff_ne.mpr c13
         have c13b1 : ((wrap64 (Int.tdiv (wrap64 (a0 * a1)) a1)) != a0) = true := bne_iff_ne.mpr c13
         simp only [Option.some.injEq, Prod.mk.injEq] at H
         obtain ⟨rfl, rfl⟩ := H
         go_wp2
         go_ret2
         exact ⟨by first | rfl | (simp; done) | (simp [*]; done), by repeat (first | exact Drawn0.refl _ | apply Drawn0.step)⟩
    ·
     rw [if_neg c6] at H
     have c6b0 : (a0 == (-1)) = false := beq_eq_false_iff_ne.mpr c6
     have c6b1 : (a0 != (-1)) = true := bne_iff_ne.mpr c6
     by_cases c14 : a1 = (-1)
     ·
      rw [if_pos c14] at H
      have c14b0 : (a1 == (-1)) = true := beq_iff_eq.mpr c14
      have c14b1 : (a1 != (-1)) = false := bne_eq_false_iff_eq.mpr c14
      clear c14
      by_cases c15 : a0 = (-9223372036854775808)
      ·
       rw [if_pos c15] at H
       have c15b0 : (a0 == (-9223372036854775808)) = true := beq_iff_eq.mpr c15
       have c15b1 : (a0 != (-9223372036854775808)) = false := bne_eq_false_iff_eq.mpr c15
       clear c15
       simp only [Option.some.injEq, Prod.mk.injEq] at H
       obtain ⟨rfl, rfl⟩ := H
       go_wp2
       go_ret2
       exact ⟨by first | rfl | (simp; done) | (simp [*]; done), by repeat (first | exact Drawn0.refl _ | apply Drawn0.step)⟩
      ·
       rw [if_neg c15] at H
       have c15b0 : (a0 == (-9223372036854775808)) = false := beq_eq_false_iff_ne.mpr c15
       have c15b1 : (a0 != (-9223372036854775808)) = true := bne_iff_ne.mpr c15
       by_cases c16 : a1 = 0
       ·
        rw [if_pos c16] at H
        exact absurd H (by simp)
       ·
        rw [if_neg c16] at H
        have c16b0 : (a1 == 0) = false := beq_eq_false_iff_ne.mpr c16
        have c16b1 : (a1 != 0) = true := bne_iff_ne.mpr c16
        by_cases c17 : (wrap64 (Int.tdiv (wrap64 (a0 * a1)) a1)) = a0
        ·
         rw [if_pos c17] at H
         have c17b0 : ((wrap64 (Int.tdiv (wrap64 (a0 * a1)) a1)) == a0) = true := beq_iff_eq.mpr c17
         have c17b1 : ((wrap64 (Int.tdiv (wrap64 (a0 * a1)) a1)) != a0) = false := bne_eq_false_iff_eq.mpr c17
         clear c17
         simp only [Option.some.injEq, Prod.mk.injEq] at H
         obtain ⟨rfl, rfl⟩ := H
         go_wp2
         go_ret2
         exact ⟨by first | rfl | (simp; done) | (simp [*]; done), by repeat (first | exact Drawn0.refl _ | apply Drawn0.step)⟩
        ·
         rw [if_neg c17] at H
         have c17b0 : ((wrap64 (Int.tdiv (wrap64 (a0 * a1)) a1)) == a0) = false := beq_eq_false_iff_ne.mpr c17
         have c17b1 : ((wrap64 (Int.tdiv (wrap64 (a0 * a1)) a1)) != a0) = true := bne_iff_ne.mpr c17
         simp only [Option.some.injEq, Prod.mk.injEq] at H
         obtain ⟨rfl, rfl⟩ := H
         go_wp2
         go_ret2
         exact ⟨by first | rfl | (simp; done) | (simp [*]; done), by repeat (first | exact Drawn0.refl _ | apply Drawn0.step)⟩
     ·
      rw [if_neg c14] at H
      have c14b0 : (a1 == (-1)) = false := beq_eq_false_iff_ne.mpr c14
      have c14b1 : (a1 != (-1)) = true := bne_iff_ne.mpr c14
      by_cases c18 : a1 = 0
      ·
       rw [if_pos c18] at H
       exact absurd H (by simp)
      ·
       rw [if_neg c18] at H
       have c18b0 : (a1 == 0) = false := beq_eq_false_iff_ne.mpr c18
       have c18b1 : (a1 != 0) = true := bne_iff_ne.mpr c18
       by_cases c19 : (wrap64 (Int.tdiv (wrap64 (a0 * a1)) a1)) = a0
       ·
        rw [if_pos c19] at H
        have c19b0 : ((wrap64 (Int.tdiv (wrap64 (a0 * a1)) a1)) == a0) = true := beq_iff_eq.mpr c19
        have c19b1 : ((wrap64 (Int.tdiv (wrap64 (a0 * a1)) a1)) != a0) = false := bne_eq_false_iff_eq.mpr c19
        clear c19
        simp only [Option.some.injEq, Prod.mk.injEq] at H
        obtain ⟨rfl, rfl⟩ := H
        go_wp2
        go_ret2
        exact ⟨by first | rfl | (simp; done) | (simp [*]; done), by repeat (first | exact Drawn0.refl _ | apply Drawn0.step)⟩
       ·
        rw [if_neg c19] at H
        have c19b0 : ((wrap64 (Int.tdiv (wrap64 (a0 * a1)) a1)) == a0) = false := beq_eq_false_iff_ne.mpr c19
        have c19b1 : ((wrap64 (Int.tdiv (wrap64 (a0 * a1)) a1)) != a0) = true := bne_iff_ne.mpr c19
        simp only [Option.some.injEq, Prod.mk.injEq] at H
        obtain ⟨rfl, rfl⟩ := H
        go_wp2
        go_ret2
        exact ⟨by first | rfl | (simp; done) | (simp [*]; done), by repeat (first | exact Drawn0.refl _ | apply Drawn0.step)⟩

/-! ### num_Add: function 76 -/
def num_Add.f (a0 : Int) (a1 : Int) : Option (Int × Int) := if a1 = 0 then (some (wrap64 (a0 + a1), 0)) else (if ((decide ((wrap64 (a0 + a1)) > a0)) == (decide (a1 > 0))) = true then (some (wrap64 (a0 + a1), 0)) else (some (0, 17)))
set_option maxHeartbeats 8000000 in
set_option maxRecDepth 100000 in
theorem num_Add.calls (a0 : Int) (a1 : Int) (r1 : Int) (r2 : Int) (w : World) (h : num_Add.f a0 a1 = some (r1, r2)) :
  Calls Tryz.prog 76 #[.int .i64 a0, .int .i64 a1] w fun e w' => e = .returned (.tuple #[.int .i64 r1, .int .i64 r2]) ∧ Drawn0 w w' := by
 have H : (if a1 = 0 then (some (wrap64 (a0 + a1), 0)) else (if ((decide ((wrap64 (a0 + a1)) > a0)) == (decide (a1 > 0))) = true then (some (wrap64 (a0 + a1), 0)) else (some (0, 17)))) = some (r1, r2) := h
 clear h
 by_cases c3 : a1 = 0
 ·
  rw [if_pos c3] at H
  have c3b0 : (a1 == 0) = true := beq_iff_eq.mpr c3
  have c3b1 : (a1 != 0) = false := bne_eq_false_iff_eq.mpr c3
  clear c3
  simp only [Option.some.injEq, Prod.mk.injEq] at H
  obtain ⟨rfl, rfl⟩ := H
  go_enter Tryz.func76, Tryz.ntmps76
  go_wp2
  go_ret2
  exact ⟨by first | rfl | (simp; done) | (simp [*]; done), by repeat (first | exact Drawn0.refl _ | apply Drawn0.step)⟩
 ·
  rw [if_neg c3] at H
  have c3b0 : (a1 == 0) = false := beq_eq_false_iff_ne.mpr c3
  have c3b1 : (a1 != 0) = true := bne_iff_ne.mpr c3
  by_cases c4 : ((decide ((wrap64 (a0 + a1)) > a0)) == (decide (a1 > 0))) = true
  ·
   rw [if_pos c4] at H
   have c4b0 : ((decide ((wrap64 (a0 + a1)) > a0)) == (decide (a1 > 0))) = true := c4
   (try (have c4b1 : decide ((decide ((wrap64 (a0 + a1)) > a0)) = (decide (a1 > 0))) = true := by simpa using c4))
   (try (have c4b2 : ((decide ((wrap64 (a0 + a1)) > a0)) == (decide (a1 > 0))) = true := by simpa using c4))
   clear c4
   simp only [Option.some.injEq, Prod.mk.injEq] at H
   obtain ⟨rfl, rfl⟩ := H
   go_enter Tryz.func76, Tryz.ntmps76
   go_wp2
   go_ret2
   exact ⟨by first | rfl | (simp; done) | (simp [*]; done), by repeat (first | exact Drawn0.refl _ | apply Drawn0.step)⟩
  ·
   rw [if_neg c4] at H
   have c4b0 : ((decide ((wrap64 (a0 + a1)) > a0)) == (decide (a1 > 0))) = false := by simpa using c4
   (try (have c4b1 : decide ((decide ((wrap64 (a0 + a1)) > a0)) = (decide (a1 > 0))) = false := by simpa using c4))
   (try (have c4b2 : ((decide ((wrap64 (a0 + a1)) > a0)) == (decide (a1 > 0))) = false := by simpa using c4))
   (try (have c4b3 : ¬ ((decide ((wrap64 (a0 + a1)) > a0)) = (decide (a1 > 0))) := by simpa using c4))
   clear c4
   simp only [Option.some.injEq, Prod.mk.injEq] at H
   obtain ⟨rfl, rfl⟩ := H
   go_enter Tryz.func76, Tryz.ntmps76
   go_wp2
   go_ret2
   exact ⟨by first | rfl | (simp; done) | (simp [*]; done), by repeat (first | exact Drawn0.refl _ | apply Drawn0.step)⟩

-- NOT PRINTED: function 55 (eval_numbers)

-- NOT PRINTED: function 35 (eval_world_double)

-- NOT PRINTED: function 18 (eval_world_expr)

-- NOT PRINTED: function 8 (eval_Expr)

-- NOT PRINTED: function 5 (chancellaw13_known)

/-! ### chancellaw5_within: function 24 -/
def chancellaw5_within.f (a0 : Int) (a1 : Int) : Option (Int) := if a1 = 0 then (none) else (if (Int.tmod a0 a1) < 0 then (some (wrap64 ((Int.tmod a0 a1) + a1))) else (some (Int.tmod a0 a1)))
set_option maxHeartbeats 8000000 in
set_option maxRecDepth 100000 in
theorem chancellaw5_within.calls (a0 : Int) (a1 : Int) (r : Int) (w : World) (h : chancellaw5_within.f a0 a1 = some r) :
  Calls Tryz.prog 24 #[.int .i64 a0, .int .i64 a1] w fun e w' => e = .returned (.int .i64 r) ∧ Drawn0 w w' := by
 have H : (if a1 = 0 then (none) else (if (Int.tmod a0 a1) < 0 then (some (wrap64 ((Int.tmod a0 a1) + a1))) else (some (Int.tmod a0 a1)))) = some r := h
 clear h
 by_cases c3 : a1 = 0
 ·
  rw [if_pos c3] at H
  exact absurd H (by simp)
 ·
  rw [if_neg c3] at H
  have c3b0 : (a1 == 0) = false := beq_eq_false_iff_ne.mpr c3
  have c3b1 : (a1 != 0) = true := bne_iff_ne.mpr c3
  by_cases c4 : (Int.tmod a0 a1) < 0
  ·
   rw [if_pos c4] at H
   have c4b0 : decide ((Int.tmod a0 a1) < 0) = true := decide_eq_true c4
   clear c4
   obtain rfl := Option.some.inj H
   go_enter Tryz.func24, Tryz.ntmps24
   go_wp2
   go_ret
   exact ⟨by first | rfl | (simp; done) | (simp [*]; done), by repeat (first | exact Drawn0.refl _ | apply Drawn0.step)⟩
  ·
   rw [if_neg c4] at H
   have c4b0 : decide ((Int.tmod a0 a1) < 0) = false := decide_eq_false c4
   clear c4
   obtain rfl := Option.some.inj H
   go_enter Tryz.func24, Tryz.ntmps24
   go_wp2
   go_ret
   exact ⟨by first | rfl | (simp; done) | (simp [*]; done), by repeat (first | exact Drawn0.refl _ | apply Drawn0.step)⟩

/-! ### chancellaw5_kind: function 27 -/
def chancellaw5_kind.f (a0 : Int) : Option (ByteArray) := (some (([(⟨#[85, 115, 101, 114]⟩ : ByteArray), (⟨#[71, 114, 111, 117, 112]⟩ : ByteArray), (⟨#[68, 111, 99]⟩ : ByteArray), (⟨#[84, 101, 97, 109]⟩ : ByteArray)] : List ByteArray) : List ByteArray)).bind fun y174 => ((chancellaw5_within.f a0 4).bind fun t177 => (if 0 ≤ t177 then (if t177 < (y174.length : Int) then (some (rdOf ByteArray.empty y174 t177)) else (none)) else (none)))
set_option maxHeartbeats 8000000 in
set_option maxRecDepth 100000 in
theorem chancellaw5_kind.calls (a0 : Int) (r : ByteArray) (w : World) (h : chancellaw5_kind.f a0 = some r) :
  Calls Tryz.prog 27 #[.int .i64 a0] w fun e w' => e = .returned (.string r) ∧ Below w.heap.size w w' := by
 have HB := aZ_ (Below.refl w.heap.size w)
 have H : ((some (([(⟨#[85, 115, 101, 114]⟩ : ByteArray), (⟨#[71, 114, 111, 117, 112]⟩ : ByteArray), (⟨#[68, 111, 99]⟩ : ByteArray), (⟨#[84, 101, 97, 109]⟩ : ByteArray)] : List ByteArray) : List ByteArray)).bind fun y174 => ((chancellaw5_within.f a0 4).bind fun t177 => (if 0 ≤ t177 then (if t177 < (y174.length : Int) then (some (rdOf ByteArray.empty y174 t177)) else (none)) else (none)))) = some r := h
 clear h
 obtain ⟨y174, hy174⟩ : ∃ y_ : List ByteArray, y_ = (([(⟨#[85, 115, 101, 114]⟩ : ByteArray), (⟨#[71, 114, 111, 117, 112]⟩ : ByteArray), (⟨#[68, 111, 99]⟩ : ByteArray), (⟨#[84, 101, 97, 109]⟩ : ByteArray)] : List ByteArray)) := ⟨_, rfl⟩
 replace H : ((chancellaw5_within.f a0 4).bind fun t177 => (if 0 ≤ t177 then (if t177 < (y174.length : Int) then (some (rdOf ByteArray.empty y174 t177)) else (none)) else (none))) = some r := by first | (rw [hy174]; with_reducible exact H) | (have H2_ := (Option.bind_some _ _).symm.trans H; rw [hy174]; with_reducible exact H2_) | (have H2_ := (Option.bind_some _ _).symm.trans H; with_reducible exact H2_) | with_reducible exact H | (rw [hy174]; exact H) | exact H
 have Ny174 := aZ_ hy174
 clear hy174
 replace H := Option.bind_eq_some_iff.mp H
 obtain ⟨t177, A20, H⟩ := H
 replace H : (if 0 ≤ t177 then (if t177 < (y174.length : Int) then (some (rdOf ByteArray.empty y174 t177)) else (none)) else (none)) = some r := H
 have A2 := aZ_ A20
 clear A20
 by_cases c3 : 0 ≤ t177
 ·
  rw [if_pos c3] at H
  have c3b0 : decide (0 ≤ t177) = true := decide_eq_true c3
  clear c3
  by_cases c4 : t177 < (y174.length : Int)
  ·
   rw [if_pos c4] at H
   have c4b0 : decide (t177 < (y174.length : Int)) = true := decide_eq_true c4
   clear c4
   obtain rfl := Option.some.inj H
   go_enter Tryz.func27, Tryz.ntmps27
   go_wp2_with (first | ((with_reducible refine gate_dst (N := 3) rfl ?_); refine Kd.R_lit Kd.string _ 9 ?hg (N := 3) ?hd (xs := ([(⟨#[85, 115, 101, 114]⟩ : ByteArray), (⟨#[71, 114, 111, 117, 112]⟩ : ByteArray), (⟨#[68, 111, 99]⟩ : ByteArray), (⟨#[84, 101, 97, 109]⟩ : ByteArray)] : List ByteArray)) (inner := [.string (⟨#[85, 115, 101, 114]⟩ : ByteArray), .string (⟨#[71, 114, 111, 117, 112]⟩ : ByteArray), .string (⟨#[68, 111, 99]⟩ : ByteArray), .string (⟨#[84, 101, 97, 109]⟩ : ByteArray)]) (ok := fun _ => True) (okp := fun _ => True) ?hr ?hp (fun _ hk => hk) trivial (Below.refl _ _) (Nat.le_refl _) (by simp) ?_; (case hd => rfl); (case hg => rfl); (case hr => first | (go_simp; done) | (go_simp; rfl)); (case hp => exact (Reps.one (show Kd.M Kd.string _ _ _ (⟨#[85, 115, 101, 114]⟩ : ByteArray) [.string (⟨#[85, 115, 101, 114]⟩ : ByteArray)] from rfl) (Reps.one (show Kd.M Kd.string _ _ _ (⟨#[71, 114, 111, 117, 112]⟩ : ByteArray) [.string (⟨#[71, 114, 111, 117, 112]⟩ : ByteArray)] from rfl) (Reps.one (show Kd.M Kd.string _ _ _ (⟨#[68, 111, 99]⟩ : ByteArray) [.string (⟨#[68, 111, 99]⟩ : ByteArray)] from rfl) (Reps.one (show Kd.M Kd.string _ _ _ (⟨#[84, 101, 97, 109]⟩ : ByteArray) [.string (⟨#[84, 101, 97, 109]⟩ : ByteArray)] from rfl) (Reps.none _ _)))))); intro v175 w5 ho6 hb hg_ hnew_; clear hg_ hnew_; (first | rw [← Ny174.out] at ho6 | (simp only [Int.reduceToNat] at ho6; rw [← Ny174.out] at ho6)); have HO176 := aZ_ (Kd.R_lower ho6 (below_size (bl HB))); replace HB := aZ_ (below_step (bl HB) hb); clear hb ho6) | ((with_reducible refine gate_callee (f := 24) rfl ?_); refine goesL_ (some 5) rfl rfl Tryz.func24 (by kernel_rfl) rfl #[.int .i64 a0, .int .i64 4] rfl gm_ ?_; (with_reducible refine (chancellaw5_within.calls a0 4 t177 _ A2.out).mono ?_); rintro e w' ⟨rfl, ⟨nd, rfl⟩⟩; refine ⟨_, rfl, ?_⟩; obtain ⟨Ao7, co7, eo7⟩ := Kd.R_slice HO176.out; subst eo7; have p178 : 0 ≤ (t177 : Int) := of_decide_eq_true asm_; have q178 : t177 < (y174.length : Int) := of_decide_eq_true asm_; obtain ⟨ad178, e178, hx178_0⟩ := Kd.at_string (Kd.R_reads' HO176.out).2.2 t177 p178 q178; cases e178; replace p178 := eq_true p178; replace q178 := eq_true q178))
   go_ret
   exact ⟨by first | rfl | (simp [errW_none, errW_some] <;> rfl) | (simp [*, errW_none, errW_some] <;> rfl), bl HB⟩
  ·
   rw [if_neg c4] at H
   exact absurd H (by simp)
 ·
  rw [if_neg c3] at H
  exact absurd H (by simp)

/-! ### chancellaw3_within: function 40 -/
def chancellaw3_within.f (a0 : Int) (a1 : Int) : Option (Int) := if a1 = 0 then (none) else (if (Int.tmod a0 a1) < 0 then (some (wrap64 ((Int.tmod a0 a1) + a1))) else (some (Int.tmod a0 a1)))
set_option maxHeartbeats 8000000 in
set_option maxRecDepth 100000 in
theorem chancellaw3_within.calls (a0 : Int) (a1 : Int) (r : Int) (w : World) (h : chancellaw3_within.f a0 a1 = some r) :
  Calls Tryz.prog 40 #[.int .i64 a0, .int .i64 a1] w fun e w' => e = .returned (.int .i64 r) ∧ Drawn0 w w' := by
 have H : (if a1 = 0 then (none) else (if (Int.tmod a0 a1) < 0 then (some (wrap64 ((Int.tmod a0 a1) + a1))) else (some (Int.tmod a0 a1)))) = some r := h
 clear h
 by_cases c3 : a1 = 0
 ·
  rw [if_pos c3] at H
  exact absurd H (by simp)
 ·
  rw [if_neg c3] at H
  have c3b0 : (a1 == 0) = false := beq_eq_false_iff_ne.mpr c3
  have c3b1 : (a1 != 0) = true := bne_iff_ne.mpr c3
  by_cases c4 : (Int.tmod a0 a1) < 0
  ·
   rw [if_pos c4] at H
   have c4b0 : decide ((Int.tmod a0 a1) < 0) = true := decide_eq_true c4
   clear c4
   obtain rfl := Option.some.inj H
   go_enter Tryz.func40, Tryz.ntmps40
   go_wp2
   go_ret
   exact ⟨by first | rfl | (simp; done) | (simp [*]; done), by repeat (first | exact Drawn0.refl _ | apply Drawn0.step)⟩
  ·
   rw [if_neg c4] at H
   have c4b0 : decide ((Int.tmod a0 a1) < 0) = false := decide_eq_false c4
   clear c4
   obtain rfl := Option.some.inj H
   go_enter Tryz.func40, Tryz.ntmps40
   go_wp2
   go_ret
   exact ⟨by first | rfl | (simp; done) | (simp [*]; done), by repeat (first | exact Drawn0.refl _ | apply Drawn0.step)⟩

/-! ### chancellaw1_within: function 56 -/
def chancellaw1_within.f (a0 : Int) (a1 : Int) : Option (Int) := if a1 = 0 then (none) else (if (Int.tmod a0 a1) < 0 then (some (wrap64 ((Int.tmod a0 a1) + a1))) else (some (Int.tmod a0 a1)))
set_option maxHeartbeats 8000000 in
set_option maxRecDepth 100000 in
theorem chancellaw1_within.calls (a0 : Int) (a1 : Int) (r : Int) (w : World) (h : chancellaw1_within.f a0 a1 = some r) :
  Calls Tryz.prog 56 #[.int .i64 a0, .int .i64 a1] w fun e w' => e = .returned (.int .i64 r) ∧ Drawn0 w w' := by
 have H : (if a1 = 0 then (none) else (if (Int.tmod a0 a1) < 0 then (some (wrap64 ((Int.tmod a0 a1) + a1))) else (some (Int.tmod a0 a1)))) = some r := h
 clear h
 by_cases c3 : a1 = 0
 ·
  rw [if_pos c3] at H
  exact absurd H (by simp)
 ·
  rw [if_neg c3] at H
  have c3b0 : (a1 == 0) = false := beq_eq_false_iff_ne.mpr c3
  have c3b1 : (a1 != 0) = true := bne_iff_ne.mpr c3
  by_cases c4 : (Int.tmod a0 a1) < 0
  ·
   rw [if_pos c4] at H
   have c4b0 : decide ((Int.tmod a0 a1) < 0) = true := decide_eq_true c4
   clear c4
   obtain rfl := Option.some.inj H
   go_enter Tryz.func56, Tryz.ntmps56
   go_wp2
   go_ret
   exact ⟨by first | rfl | (simp; done) | (simp [*]; done), by repeat (first | exact Drawn0.refl _ | apply Drawn0.step)⟩
  ·
   rw [if_neg c4] at H
   have c4b0 : decide ((Int.tmod a0 a1) < 0) = false := decide_eq_false c4
   clear c4
   obtain rfl := Option.some.inj H
   go_enter Tryz.func56, Tryz.ntmps56
   go_wp2
   go_ret
   exact ⟨by first | rfl | (simp; done) | (simp [*]; done), by repeat (first | exact Drawn0.refl _ | apply Drawn0.step)⟩

/-! ### chancelref1_Is: function 77 -/
def chancelref1_Is.f (a0 : Int) : Option (Bool) := if a0 ≥ 0 then (if a0 ≤ 1114111 then (if a0 < 55296 then (some true) else (some (decide (a0 > 57343)))) else (some false)) else (some false)
set_option maxHeartbeats 8000000 in
set_option maxRecDepth 100000 in
theorem chancelref1_Is.calls (a0 : Int) (r : Bool) (w : World) (h : chancelref1_Is.f a0 = some r) :
  Calls Tryz.prog 77 #[.int .i32 a0] w fun e w' => e = .returned (.bool r) ∧ Drawn0 w w' := by
 have H : (if a0 ≥ 0 then (if a0 ≤ 1114111 then (if a0 < 55296 then (some true) else (some (decide (a0 > 57343)))) else (some false)) else (some false)) = some r := h
 clear h
 by_cases c2 : a0 ≥ 0
 ·
  rw [if_pos c2] at H
  have c2b0 : decide (0 ≤ a0) = true := decide_eq_true c2
  clear c2
  by_cases c3 : a0 ≤ 1114111
  ·
   rw [if_pos c3] at H
   have c3b0 : decide (a0 ≤ 1114111) = true := decide_eq_true c3
   clear c3
   by_cases c4 : a0 < 55296
   ·
    rw [if_pos c4] at H
    have c4b0 : decide (a0 < 55296) = true := decide_eq_true c4
    clear c4
    obtain rfl := Option.some.inj H
    go_enter Tryz.func77, Tryz.ntmps77
    go_wp2
    go_ret
    exact ⟨by first | rfl | (simp; done) | (simp [*]; done), by repeat (first | exact Drawn0.refl _ | apply Drawn0.step)⟩
   ·
    rw [if_neg c4] at H
    have c4b0 : decide (a0 < 55296) = false := decide_eq_false c4
    clear c4
    obtain rfl := Option.some.inj H
    go_enter Tryz.func77, Tryz.ntmps77
    go_wp2
    go_ret
    exact ⟨by first | rfl | (simp; done) | (simp [*]; done), by repeat (first | exact Drawn0.refl _ | apply Drawn0.step)⟩
  ·
   rw [if_neg c3] at H
   have c3b0 : decide (a0 ≤ 1114111) = false := decide_eq_false c3
   clear c3
   obtain rfl := Option.some.inj H
   go_enter Tryz.func77, Tryz.ntmps77
   go_wp2
   go_ret
   exact ⟨by first | rfl | (simp; done) | (simp [*]; done), by repeat (first | exact Drawn0.refl _ | apply Drawn0.step)⟩
 ·
  rw [if_neg c2] at H
  have c2b0 : decide (0 ≤ a0) = false := decide_eq_false c2
  clear c2
  obtain rfl := Option.some.inj H
  go_enter Tryz.func77, Tryz.ntmps77
  go_wp2
  go_ret
  exact ⟨by first | rfl | (simp; done) | (simp [*]; done), by repeat (first | exact Drawn0.refl _ | apply Drawn0.step)⟩

/-! ### chancelref1_put: function 78 -/
def chancelref1_put.f (l0 : List Int) (a1 : Int) : Option (List Int) := if a1 < 128 then (if l0.length < 140737488355328 then (some (l0 ++ [(a1) % 256])) else (none)) else (if a1 < 2048 then ((some (([Go.bits .or .u8 192 ((a1 / 64) % 256), Go.bits .or .u8 128 ((Go.bits .and .i32 a1 63) % 256)] : List Int) : List Int)).bind fun y182 => (if l0.length + y182.length < 140737488355328 then (some (l0 ++ y182)) else (none))) else (if a1 < 65536 then ((some (([Go.bits .or .u8 224 ((a1 / 4096) % 256), Go.bits .or .u8 128 ((Go.bits .and .i32 (a1 / 64) 63) % 256), Go.bits .or .u8 128 ((Go.bits .and .i32 a1 63) % 256)] : List Int) : List Int)).bind fun y188 => (if l0.length + y188.length < 140737488355328 then (some (l0 ++ y188)) else (none))) else ((some (([Go.bits .or .u8 240 ((a1 / 262144) % 256), Go.bits .or .u8 128 ((Go.bits .and .i32 (a1 / 4096) 63) % 256), Go.bits .or .u8 128 ((Go.bits .and .i32 (a1 / 64) 63) % 256), Go.bits .or .u8 128 ((Go.bits .and .i32 a1 63) % 256)] : List Int) : List Int)).bind fun y194 => (if l0.length + y194.length < 140737488355328 then (some (l0 ++ y194)) else (none)))))
set_option maxHeartbeats 8000000 in
set_option maxRecDepth 100000 in
theorem chancelref1_put.calls (P0_ : Nat → Prop) (u9000_ : Value) (l0 : List Int) (a1 : Int) (r : List Int) (w0 w : World) (hB : Below w0.heap.size w0 w) (ho0 : Kd.R (Kd.int .u8) 5 w w0.heap.size P0_ u9000_ l0) (h : chancelref1_put.f l0 a1 = some r) :
  Calls Tryz.prog 78 #[u9000_, .int .i32 a1] w fun e w' => ∃ v0_ : Value, e = .returned (v0_) ∧ Kd.R (Kd.int .u8) 5 w' w0.heap.size (fun k_ => (P0_ k_ ∨ w.heap.size ≤ k_)) v0_ r ∧ Below w0.heap.size w0 w' ∧ Kept w w' (fun k_ => P0_ k_) := by
 have HO0 := aZ_ (show Kd.R (Kd.int .u8) 5 w w0.heap.size (fun k_ => (P0_ k_ ∨ w.heap.size ≤ k_)) u9000_ l0 from Kd.R_mono ho0 (fun k_ hk => (.inl hk)))
 have HK := aZ_ (Kept.refl w (fun k_ => P0_ k_))
 have HW0 := aZ_ hB.size
 have HB := aZ_ hB
 clear hB
 have H : (if a1 < 128 then (if l0.length < 140737488355328 then (some (l0 ++ [(a1) % 256])) else (none)) else (if a1 < 2048 then ((some (([Go.bits .or .u8 192 ((a1 / 64) % 256), Go.bits .or .u8 128 ((Go.bits .and .i32 a1 63) % 256)] : List Int) : List Int)).bind fun y182 => (if l0.length + y182.length < 140737488355328 then (some (l0 ++ y182)) else (none))) else (if a1 < 65536 then ((some (([Go.bits .or .u8 224 ((a1 / 4096) % 256), Go.bits .or .u8 128 ((Go.bits .and .i32 (a1 / 64) 63) % 256), Go.bits .or .u8 128 ((Go.bits .and .i32 a1 63) % 256)] : List Int) : List Int)).bind fun y188 => (if l0.length + y188.length < 140737488355328 then (some (l0 ++ y188)) else (none))) else ((some (([Go.bits .or .u8 240 ((a1 / 262144) % 256), Go.bits .or .u8 128 ((Go.bits .and .i32 (a1 / 4096) 63) % 256), Go.bits .or .u8 128 ((Go.bits .and .i32 (a1 / 64) 63) % 256), Go.bits .or .u8 128 ((Go.bits .and .i32 a1 63) % 256)] : List Int) : List Int)).bind fun y194 => (if l0.length + y194.length < 140737488355328 then (some (l0 ++ y194)) else (none)))))) = some r := h
 clear h
 by_cases c3 : a1 < 128
 ·
  rw [if_pos c3] at H
  have c3b0 : decide (a1 < 128) = true := decide_eq_true c3
  clear c3
  by_cases c4 : l0.length < 140737488355328
  ·
   rw [if_pos c4] at H
   have LMc4 := aZ_ c4
   clear c4
   obtain ⟨y179, hy179⟩ : ∃ y_ : List Int, y_ = (l0 ++ [(a1) % 256]) := ⟨_, rfl⟩
   replace H : (some y179) = some r := by first | (rw [hy179]; with_reducible exact H) | (have H2_ := (Option.bind_some _ _).symm.trans H; rw [hy179]; with_reducible exact H2_) | (have H2_ := (Option.bind_some _ _).symm.trans H; with_reducible exact H2_) | with_reducible exact H | (rw [hy179]; exact H) | exact H
   have Ny179 := aZ_ hy179
   clear hy179
   obtain rfl := Option.some.inj H
   go_enter Tryz.func78, Tryz.ntmps78
   go_wp2_with (first | ((with_reducible refine gate_builtin (b := .append) (xs := #[.tmp 8, .tmp 11]) rfl ?_); at_builtin; refine Kd.R_append (Kd.int .u8) (w0 := w0) w0.heap.size rfl (.tmp 8) (.tmp 11) 91 5 (.int .u8 0) 1 rfl Tryz.underlying91 info5 rfl (by decide) (by omega) u9000_ l0 ((a1) % 256) [.int .u8 ((a1) % 256)] (fun k_ => (P0_ k_ ∨ w.heap.size ≤ k_)) (fun _ => False) rfl rfl ?aP (fun _ hk => hk.elim) ?aF ?aO ?aB ?aS ?aL ?_; (case aP => exact rfl); (case aB => exact (bl HB)); (case aF => exact (fun k_ hk => (.inr (Nat.le_trans (by first | exact HK.out.1 | exact (show Kept w _ (fun k_ => P0_ k_) from by repeat (first | (with_reducible first | exact HK.out | apply Kept.alloc | apply Kept.drewN | apply Kept.drew) | exact HK.out)).1) hk)))); (case aO => exact (kR HO0)); (case aS => exact (below_size (bl HB))); (case aL => have := LMc4.out; omega); intro v180 w5 ho hb hg hat; rw [← Ny179.out] at ho; replace HB := aZ_ (hb); replace HK := aZ_ (Kept.of_grown (S := (fun k_ => P0_ k_)) hg (by repeat (first | (with_reducible first | exact HK.out | apply Kept.alloc | apply Kept.drewN | apply Kept.drew) | exact HK.out)) (fun k_ e_ => (HO0.out.1 k_ e_))); have HO181 := aZ_ (ho); clear HO0; clear ho hb hg hat))
   go_ret
   exact ⟨_, by first | rfl | (simp [errW_none, errW_some] <;> rfl) | (simp [*, errW_none, errW_some] <;> rfl), by (with_reducible repeat (first | apply Kd.R_alloc | apply Kd.R_drewN | apply Kd.R_drew)); exact HO181.out, bl HB, by repeat (first | (with_reducible first | exact HK.out | apply Kept.alloc | apply Kept.drewN | apply Kept.drew) | exact HK.out)⟩
  ·
   rw [if_neg c4] at H
   exact absurd H (by simp)
 ·
  rw [if_neg c3] at H
  have c3b0 : decide (a1 < 128) = false := decide_eq_false c3
  clear c3
  by_cases c6 : a1 < 2048
  ·
   rw [if_pos c6] at H
   have c6b0 : decide (a1 < 2048) = true := decide_eq_true c6
   clear c6
   obtain ⟨y182, hy182⟩ : ∃ y_ : List Int, y_ = (([Go.bits .or .u8 192 ((a1 / 64) % 256), Go.bits .or .u8 128 ((Go.bits .and .i32 a1 63) % 256)] : List Int)) := ⟨_, rfl⟩
   replace H : (if l0.length + y182.length < 140737488355328 then (some (l0 ++ y182)) else (none)) = some r := by first | (rw [hy182]; with_reducible exact H) | (have H2_ := (Option.bind_some _ _).symm.trans H; rw [hy182]; with_reducible exact H2_) | (have H2_ := (Option.bind_some _ _).symm.trans H; with_reducible exact H2_) | with_reducible exact H | (rw [hy182]; exact H) | exact H
   have Ny182 := aZ_ hy182
   clear hy182
   by_cases c7 : l0.length + y182.length < 140737488355328
   ·
    rw [if_pos c7] at H
    have LMc7 := aZ_ c7
    clear c7
    obtain ⟨y185, hy185⟩ : ∃ y_ : List Int, y_ = (l0 ++ y182) := ⟨_, rfl⟩
    replace H : (some y185) = some r := by first | (rw [hy185]; with_reducible exact H) | (have H2_ := (Option.bind_some _ _).symm.trans H; rw [hy185]; with_reducible exact H2_) | (have H2_ := (Option.bind_some _ _).symm.trans H; with_reducible exact H2_) | with_reducible exact H | (rw [hy185]; exact H) | exact H
    have Ny185 := aZ_ hy185
    clear hy185
    obtain rfl := Option.some.inj H
    go_enter Tryz.func78, Tryz.ntmps78
    go_wp2_with (first | ((with_reducible refine gate_dst (N := 25) rfl ?_); refine Kd.R_lit (Kd.int .u8) _ 5 ?hg (N := 25) ?hd (xs := ([Go.bits .or .u8 192 ((a1 / 64) % 256), Go.bits .or .u8 128 ((Go.bits .and .i32 a1 63) % 256)] : List Int)) (inner := [.int .u8 (Go.bits .or .u8 192 ((a1 / 64) % 256)), .int .u8 (Go.bits .or .u8 128 ((Go.bits .and .i32 a1 63) % 256))]) (ok := fun _ => True) (okp := fun _ => True) ?hr ?hp (fun _ hk => hk) trivial (Below.refl _ _) (Nat.le_refl _) (by simp) ?_; (case hd => rfl); (case hg => rfl); (case hr => first | (go_simp; done) | (go_simp; rfl)); (case hp => exact (Reps.one (show Kd.M (Kd.int .u8) _ _ _ (Go.bits .or .u8 192 ((a1 / 64) % 256)) [.int .u8 (Go.bits .or .u8 192 ((a1 / 64) % 256))] from rfl) (Reps.one (show Kd.M (Kd.int .u8) _ _ _ (Go.bits .or .u8 128 ((Go.bits .and .i32 a1 63) % 256)) [.int .u8 (Go.bits .or .u8 128 ((Go.bits .and .i32 a1 63) % 256))] from rfl) (Reps.none _ _)))); intro v183 w8 ho9 hb hg_ hnew_; clear hg_ hnew_; (first | rw [← Ny182.out] at ho9 | (simp only [Int.reduceToNat] at ho9; rw [← Ny182.out] at ho9)); have HO184 := aZ_ (Kd.R_lower (Kd.R_new' (Kd.R_newM (M := fun k_ => (P0_ k_ ∨ w.heap.size ≤ k_)) ho9 (by first | exact HK.out.1 | exact (show Kept w _ (fun k_ => P0_ k_) from by repeat (first | (with_reducible first | exact HK.out | apply Kept.alloc | apply Kept.drewN | apply Kept.drew) | exact HK.out)).1) (fun k_ h_ => .inr h_)) (Kd.R_lt (kR HO0))) (below_size (bl HB))); replace HO0 := aZ_ (Kd.R_elder' (kR HO0) (Kd.R_base ho9) hb); replace HK := aZ_ (Kept.below (S := (fun k_ => P0_ k_)) (by repeat (first | (with_reducible first | exact HK.out | apply Kept.alloc | apply Kept.drewN | apply Kept.drew) | exact HK.out)) hb); replace HB := aZ_ (below_step (bl HB) hb); clear hb ho9; obtain ⟨Ao11, co11, eo11⟩ := Kd.R_slice HO184.out; subst eo11) | ((with_reducible refine gate_builtin (b := .append) (xs := #[.tmp 16, .tmp 25]) rfl ?_); at_builtin; refine Kd.R_append_rows (Kd.int .u8) (w0 := w0) w0.heap.size rfl (.tmp 16) (.tmp 25) 91 5 (.int .u8 0) 1 rfl Tryz.underlying91 info5 rfl (by decide) (by omega) u9000_ l0 y182 _ _ _ (fun k_ => (P0_ k_ ∨ w.heap.size ≤ k_) ∧ some k_ ≠ (.slice Ao11 y182.length co11 : Value).ownBlock) (fun _ => False) rfl rfl ?aO ?aR (fun _ _ h => h) (fun _ h => h.elim) ?aF ?aB ?aS ?aL ?_; (case aR => repeat (first | exact (Kd.R_reads' HO184.out).2.2 | (with_reducible refine Kd.C_alloc ?_ _) | (with_reducible refine Kd.C_drewN ?_ _) | (with_reducible refine Kd.C_drew ?_))); (case aB => exact (bl HB)); (case aF => exact (fun k_ hk => ⟨(.inr (Nat.le_trans (by first | exact HK.out.1 | exact (show Kept w _ (fun k_ => P0_ k_) from by repeat (first | (with_reducible first | exact HK.out | apply Kept.alloc | apply Kept.drewN | apply Kept.drew) | exact HK.out)).1) hk)), Kd.fresh' (Kd.R_lt (kR HO184)) k_ hk⟩)); (case aO => exact (kR HO0)); (case aS => exact (below_size (bl HB))); (case aL => have := LMc7.out; omega); intro v186 w10 ho hb hg hat; rw [← Ny185.out] at ho; replace HO184 := aZ_ (Kd.R_after (ok := (fun k_ => (P0_ k_ ∨ w.heap.size ≤ k_))) (by (with_reducible repeat (first | apply Kd.R_alloc | apply Kd.R_drewN | apply Kd.R_drew)); exact Kd.R_mono HO184.out (fun _ hk => ⟨hk.1.1, hk.2⟩)) hg hat); replace HB := aZ_ (hb); replace HK := aZ_ (Kept.of_grown (S := (fun k_ => P0_ k_)) hg (by repeat (first | (with_reducible first | exact HK.out | apply Kept.alloc | apply Kept.drewN | apply Kept.drew) | exact HK.out)) (fun k_ e_ => (HO0.out.1 k_ e_).1)); have HO187 := aZ_ (ho); clear HO0; clear ho hb hg hat))
    go_ret
    exact ⟨_, by first | rfl | (simp [errW_none, errW_some] <;> rfl) | (simp [*, errW_none, errW_some] <;> rfl), by (with_reducible repeat (first | apply Kd.R_alloc | apply Kd.R_drewN | apply Kd.R_drew)); exact Kd.R_mono HO187.out (fun _ hk => hk.1), bl HB, by repeat (first | (with_reducible first | exact HK.out | apply Kept.alloc | apply Kept.drewN | apply Kept.drew) | exact HK.out)⟩
   ·
    rw [if_neg c7] at H
    exact absurd H (by simp)
  ·
   rw [if_neg c6] at H
   have c6b0 : decide (a1 < 2048) = false := decide_eq_false c6
   clear c6
   by_cases c12 : a1 < 65536
   ·
    rw [if_pos c12] at H
    have c12b0 : decide (a1 < 65536) = true := decide_eq_true c12
    clear c12
    obtain ⟨y188, hy188⟩ : ∃ y_ : List Int, y_ = (([Go.bits .or .u8 224 ((a1 / 4096) % 256), Go.bits .or .u8 128 ((Go.bits .and .i32 (a1 / 64) 63) % 256), Go.bits .or .u8 128 ((Go.bits .and .i32 a1 63) % 256)] : List Int)) := ⟨_, rfl⟩
    replace H : (if l0.length + y188.length < 140737488355328 then (some (l0 ++ y188)) else (none)) = some r := by first | (rw [hy188]; with_reducible exact H) | (have H2_ := (Option.bind_some _ _).symm.trans H; rw [hy188]; with_reducible exact H2_) | (have H2_ := (Option.bind_some _ _).symm.trans H; with_reducible exact H2_) | with_reducible exact H | (rw [hy188]; exact H) | exact H
    have Ny188 := aZ_ hy188
    clear hy188
    by_cases c13 : l0.length + y188.length < 140737488355328
    ·
     rw [if_pos c13] at H
     have LMc13 := aZ_ c13
     clear c13
     obtain ⟨y191, hy191⟩ : ∃ y_ : List Int, y_ = (l0 ++ y188) := ⟨_, rfl⟩
     replace H : (some y191) = some r := by first | (rw [hy191]; with_reducible exact H) | (have H2_ := (Option.bind_some _ _).symm.trans H; rw [hy191]; with_reducible exact H2_) | (have H2_ := (Option.bind_some _ _).symm.trans H; with_reducible exact H2_) | with_reducible exact H | (rw [hy191]; exact H) | exact H
     have Ny191 := aZ_ hy191
     clear hy191
     obtain rfl := Option.some.inj H
     go_enter Tryz.func78, Tryz.ntmps78
     go_wp2_with (first | ((with_reducible refine gate_dst (N := 44) rfl ?_); refine Kd.R_lit (Kd.int .u8) _ 5 ?hg (N := 44) ?hd (xs := ([Go.bits .or .u8 224 ((a1 / 4096) % 256), Go.bits .or .u8 128 ((Go.bits .and .i32 (a1 / 64) 63) % 256), Go.bits .or .u8 128 ((Go.bits .and .i32 a1 63) % 256)] : List Int)) (inner := [.int .u8 (Go.bits .or .u8 224 ((a1 / 4096) % 256)), .int .u8 (Go.bits .or .u8 128 ((Go.bits .and .i32 (a1 / 64) 63) % 256)), .int .u8 (Go.bits .or .u8 128 ((Go.bits .and .i32 a1 63) % 256))]) (ok := fun _ => True) (okp := fun _ => True) ?hr ?hp (fun _ hk => hk) trivial (Below.refl _ _) (Nat.le_refl _) (by simp) ?_; (case hd => rfl); (case hg => rfl); (case hr => first | (go_simp; done) | (go_simp; rfl)); (case hp => exact (Reps.one (show Kd.M (Kd.int .u8) _ _ _ (Go.bits .or .u8 224 ((a1 / 4096) % 256)) [.int .u8 (Go.bits .or .u8 224 ((a1 / 4096) % 256))] from rfl) (Reps.one (show Kd.M (Kd.int .u8) _ _ _ (Go.bits .or .u8 128 ((Go.bits .and .i32 (a1 / 64) 63) % 256)) [.int .u8 (Go.bits .or .u8 128 ((Go.bits .and .i32 (a1 / 64) 63) % 256))] from rfl) (Reps.one (show Kd.M (Kd.int .u8) _ _ _ (Go.bits .or .u8 128 ((Go.bits .and .i32 a1 63) % 256)) [.int .u8 (Go.bits .or .u8 128 ((Go.bits .and .i32 a1 63) % 256))] from rfl) (Reps.none _ _))))); intro v189 w14 ho15 hb hg_ hnew_; clear hg_ hnew_; (first | rw [← Ny188.out] at ho15 | (simp only [Int.reduceToNat] at ho15; rw [← Ny188.out] at ho15)); have HO190 := aZ_ (Kd.R_lower (Kd.R_new' (Kd.R_newM (M := fun k_ => (P0_ k_ ∨ w.heap.size ≤ k_)) ho15 (by first | exact HK.out.1 | exact (show Kept w _ (fun k_ => P0_ k_) from by repeat (first | (with_reducible first | exact HK.out | apply Kept.alloc | apply Kept.drewN | apply Kept.drew) | exact HK.out)).1) (fun k_ h_ => .inr h_)) (Kd.R_lt (kR HO0))) (below_size (bl HB))); replace HO0 := aZ_ (Kd.R_elder' (kR HO0) (Kd.R_base ho15) hb); replace HK := aZ_ (Kept.below (S := (fun k_ => P0_ k_)) (by repeat (first | (with_reducible first | exact HK.out | apply Kept.alloc | apply Kept.drewN | apply Kept.drew) | exact HK.out)) hb); replace HB := aZ_ (below_step (bl HB) hb); clear hb ho15; obtain ⟨Ao17, co17, eo17⟩ := Kd.R_slice HO190.out; subst eo17) | ((with_reducible refine gate_builtin (b := .append) (xs := #[.tmp 30, .tmp 44]) rfl ?_); at_builtin; refine Kd.R_append_rows (Kd.int .u8) (w0 := w0) w0.heap.size rfl (.tmp 30) (.tmp 44) 91 5 (.int .u8 0) 1 rfl Tryz.underlying91 info5 rfl (by decide) (by omega) u9000_ l0 y188 _ _ _ (fun k_ => (P0_ k_ ∨ w.heap.size ≤ k_) ∧ some k_ ≠ (.slice Ao17 y188.length co17 : Value).ownBlock) (fun _ => False) rfl rfl ?aO ?aR (fun _ _ h => h) (fun _ h => h.elim) ?aF ?aB ?aS ?aL ?_; (case aR => repeat (first | exact (Kd.R_reads' HO190.out).2.2 | (with_reducible refine Kd.C_alloc ?_ _) | (with_reducible refine Kd.C_drewN ?_ _) | (with_reducible refine Kd.C_drew ?_))); (case aB => exact (bl HB)); (case aF => exact (fun k_ hk => ⟨(.inr (Nat.le_trans (by first | exact HK.out.1 | exact (show Kept w _ (fun k_ => P0_ k_) from by repeat (first | (with_reducible first | exact HK.out | apply Kept.alloc | apply Kept.drewN | apply Kept.drew) | exact HK.out)).1) hk)), Kd.fresh' (Kd.R_lt (kR HO190)) k_ hk⟩)); (case aO => exact (kR HO0)); (case aS => exact (below_size (bl HB))); (case aL => have := LMc13.out; omega); intro v192 w16 ho hb hg hat; rw [← Ny191.out] at ho; replace HO190 := aZ_ (Kd.R_after (ok := (fun k_ => (P0_ k_ ∨ w.heap.size ≤ k_))) (by (with_reducible repeat (first | apply Kd.R_alloc | apply Kd.R_drewN | apply Kd.R_drew)); exact Kd.R_mono HO190.out (fun _ hk => ⟨hk.1.1, hk.2⟩)) hg hat); replace HB := aZ_ (hb); replace HK := aZ_ (Kept.of_grown (S := (fun k_ => P0_ k_)) hg (by repeat (first | (with_reducible first | exact HK.out | apply Kept.alloc | apply Kept.drewN | apply Kept.drew) | exact HK.out)) (fun k_ e_ => (HO0.out.1 k_ e_).1)); have HO193 := aZ_ (ho); clear HO0; clear ho hb hg hat))
     go_ret
     exact ⟨_, by first | rfl | (simp [errW_none, errW_some] <;> rfl) | (simp [*, errW_none, errW_some] <;> rfl), by (with_reducible repeat (first | apply Kd.R_alloc | apply Kd.R_drewN | apply Kd.R_drew)); exact Kd.R_mono HO193.out (fun _ hk => hk.1), bl HB, by repeat (first | (with_reducible first | exact HK.out | apply Kept.alloc | apply Kept.drewN | apply Kept.drew) | exact HK.out)⟩
    ·
     rw [if_neg c13] at H
     exact absurd H (by simp)
   ·
    rw [if_neg c12] at H
    have c12b0 : decide (a1 < 65536) = false := decide_eq_false c12
    clear c12
    obtain ⟨y194, hy194⟩ : ∃ y_ : List Int, y_ = (([Go.bits .or .u8 240 ((a1 / 262144) % 256), Go.bits .or .u8 128 ((Go.bits .and .i32 (a1 / 4096) 63) % 256), Go.bits .or .u8 128 ((Go.bits .and .i32 (a1 / 64) 63) % 256), Go.bits .or .u8 128 ((Go.bits .and .i32 a1 63) % 256)] : List Int)) := ⟨_, rfl⟩
    replace H : (if l0.length + y194.length < 140737488355328 then (some (l0 ++ y194)) else (none)) = some r := by first | (rw [hy194]; with_reducible exact H) | (have H2_ := (Option.bind_some _ _).symm.trans H; rw [hy194]; with_reducible exact H2_) | (have H2_ := (Option.bind_some _ _).symm.trans H; with_reducible exact H2_) | with_reducible exact H | (rw [hy194]; exact H) | exact H
    have Ny194 := aZ_ hy194
    clear hy194
    by_cases c18 : l0.length + y194.length < 140737488355328
    ·
     rw [if_pos c18] at H
     have LMc18 := aZ_ c18
     clear c18
     obtain ⟨y197, hy197⟩ : ∃ y_ : List Int, y_ = (l0 ++ y194) := ⟨_, rfl⟩
     replace H : (some y197) = some r := by first | (rw [hy197]; with_reducible exact H) | (have H2_ := (Option.bind_some _ _).symm.trans H; rw [hy197]; with_reducible exact H2_) | (have H2_ := (Option.bind_some _ _).symm.trans H; with_reducible exact H2_) | with_reducible exact H | (rw [hy197]; exact H) | exact H
     have Ny197 := aZ_ hy197
     clear hy197
     obtain rfl := Option.some.inj H
     go_enter Tryz.func78, Tryz.ntmps78
     go_wp2_with (first | ((with_reducible refine gate_dst (N := 65) rfl ?_); refine Kd.R_lit (Kd.int .u8) _ 5 ?hg (N := 65) ?hd (xs := ([Go.bits .or .u8 240 ((a1 / 262144) % 256), Go.bits .or .u8 128 ((Go.bits .and .i32 (a1 / 4096) 63) % 256), Go.bits .or .u8 128 ((Go.bits .and .i32 (a1 / 64) 63) % 256), Go.bits .or .u8 128 ((Go.bits .and .i32 a1 63) % 256)] : List Int)) (inner := [.int .u8 (Go.bits .or .u8 240 ((a1 / 262144) % 256)), .int .u8 (Go.bits .or .u8 128 ((Go.bits .and .i32 (a1 / 4096) 63) % 256)), .int .u8 (Go.bits .or .u8 128 ((Go.bits .and .i32 (a1 / 64) 63) % 256)), .int .u8 (Go.bits .or .u8 128 ((Go.bits .and .i32 a1 63) % 256))]) (ok := fun _ => True) (okp := fun _ => True) ?hr ?hp (fun _ hk => hk) trivial (Below.refl _ _) (Nat.le_refl _) (by simp) ?_; (case hd => rfl); (case hg => rfl); (case hr => first | (go_simp; done) | (go_simp; rfl)); (case hp => exact (Reps.one (show Kd.M (Kd.int .u8) _ _ _ (Go.bits .or .u8 240 ((a1 / 262144) % 256)) [.int .u8 (Go.bits .or .u8 240 ((a1 / 262144) % 256))] from rfl) (Reps.one (show Kd.M (Kd.int .u8) _ _ _ (Go.bits .or .u8 128 ((Go.bits .and .i32 (a1 / 4096) 63) % 256)) [.int .u8 (Go.bits .or .u8 128 ((Go.bits .and .i32 (a1 / 4096) 63) % 256))] from rfl) (Reps.one (show Kd.M (Kd.int .u8) _ _ _ (Go.bits .or .u8 128 ((Go.bits .and .i32 (a1 / 64) 63) % 256)) [.int .u8 (Go.bits .or .u8 128 ((Go.bits .and .i32 (a1 / 64) 63) % 256))] from rfl) (Reps.one (show Kd.M (Kd.int .u8) _ _ _ (Go.bits .or .u8 128 ((Go.bits .and .i32 a1 63) % 256)) [.int .u8 (Go.bits .or .u8 128 ((Go.bits .and .i32 a1 63) % 256))] from rfl) (Reps.none _ _)))))); intro v195 w19 ho20 hb hg_ hnew_; clear hg_ hnew_; (first | rw [← Ny194.out] at ho20 | (simp only [Int.reduceToNat] at ho20; rw [← Ny194.out] at ho20)); have HO196 := aZ_ (Kd.R_lower (Kd.R_new' (Kd.R_newM (M := fun k_ => (P0_ k_ ∨ w.heap.size ≤ k_)) ho20 (by first | exact HK.out.1 | exact (show Kept w _ (fun k_ => P0_ k_) from by repeat (first | (with_reducible first | exact HK.out | apply Kept.alloc | apply Kept.drewN | apply Kept.drew) | exact HK.out)).1) (fun k_ h_ => .inr h_)) (Kd.R_lt (kR HO0))) (below_size (bl HB))); replace HO0 := aZ_ (Kd.R_elder' (kR HO0) (Kd.R_base ho20) hb); replace HK := aZ_ (Kept.below (S := (fun k_ => P0_ k_)) (by repeat (first | (with_reducible first | exact HK.out | apply Kept.alloc | apply Kept.drewN | apply Kept.drew) | exact HK.out)) hb); replace HB := aZ_ (below_step (bl HB) hb); clear hb ho20; obtain ⟨Ao22, co22, eo22⟩ := Kd.R_slice HO196.out; subst eo22) | ((with_reducible refine gate_builtin (b := .append) (xs := #[.tmp 46, .tmp 65]) rfl ?_); at_builtin; refine Kd.R_append_rows (Kd.int .u8) (w0 := w0) w0.heap.size rfl (.tmp 46) (.tmp 65) 91 5 (.int .u8 0) 1 rfl Tryz.underlying91 info5 rfl (by decide) (by omega) u9000_ l0 y194 _ _ _ (fun k_ => (P0_ k_ ∨ w.heap.size ≤ k_) ∧ some k_ ≠ (.slice Ao22 y194.length co22 : Value).ownBlock) (fun _ => False) rfl rfl ?aO ?aR (fun _ _ h => h) (fun _ h => h.elim) ?aF ?aB ?aS ?aL ?_; (case aR => repeat (first | exact (Kd.R_reads' HO196.out).2.2 | (with_reducible refine Kd.C_alloc ?_ _) | (with_reducible refine Kd.C_drewN ?_ _) | (with_reducible refine Kd.C_drew ?_))); (case aB => exact (bl HB)); (case aF => exact (fun k_ hk => ⟨(.inr (Nat.le_trans (by first | exact HK.out.1 | exact (show Kept w _ (fun k_ => P0_ k_) from by repeat (first | (with_reducible first | exact HK.out | apply Kept.alloc | apply Kept.drewN | apply Kept.drew) | exact HK.out)).1) hk)), Kd.fresh' (Kd.R_lt (kR HO196)) k_ hk⟩)); (case aO => exact (kR HO0)); (case aS => exact (below_size (bl HB))); (case aL => have := LMc18.out; omega); intro v198 w21 ho hb hg hat; rw [← Ny197.out] at ho; replace HO196 := aZ_ (Kd.R_after (ok := (fun k_ => (P0_ k_ ∨ w.heap.size ≤ k_))) (by (with_reducible repeat (first | apply Kd.R_alloc | apply Kd.R_drewN | apply Kd.R_drew)); exact Kd.R_mono HO196.out (fun _ hk => ⟨hk.1.1, hk.2⟩)) hg hat); replace HB := aZ_ (hb); replace HK := aZ_ (Kept.of_grown (S := (fun k_ => P0_ k_)) hg (by repeat (first | (with_reducible first | exact HK.out | apply Kept.alloc | apply Kept.drewN | apply Kept.drew) | exact HK.out)) (fun k_ e_ => (HO0.out.1 k_ e_).1)); have HO199 := aZ_ (ho); clear HO0; clear ho hb hg hat))
     go_ret
     exact ⟨_, by first | rfl | (simp [errW_none, errW_some] <;> rfl) | (simp [*, errW_none, errW_some] <;> rfl), by (with_reducible repeat (first | apply Kd.R_alloc | apply Kd.R_drewN | apply Kd.R_drew)); exact Kd.R_mono HO199.out (fun _ hk => hk.1), bl HB, by repeat (first | (with_reducible first | exact HK.out | apply Kept.alloc | apply Kept.drewN | apply Kept.drew) | exact HK.out)⟩
    ·
     rw [if_neg c18] at H
     exact absurd H (by simp)

/-! ### chancelref1_Of: function 57 -/
def chancelref1_Of.l0 : Nat → List Int → List Int → Int → Option (ByteArray × Int)
 | 0, _, _, _ => none
 | k + 1, x0, x4, x5 => if x5 < (x0.length : Int) then (if 0 ≤ x5 then ((chancelref1_Is.f (rd x0 x5)).bind fun t201 => (if t201 = true then ((chancelref1_put.f x4 (rd x0 x5)).bind fun t203 => (chancelref1_Of.l0 k x0 t203 (wrap64 (x5 + 1)))) else (some ((⟨#[]⟩ : ByteArray), 11)))) else (none)) else (some (strOfNums x4, 0))
def chancelref1_Of.f (k : Nat) (l0 : List Int) : Option (ByteArray × Int) := chancelref1_Of.l0 k l0 ([] : List Int) 0
theorem chancelref1_Of.mono_l : ∀ k, (∀ y0 y1 y2, LeO (chancelref1_Of.l0 k y0 y1 y2) (chancelref1_Of.l0 (k + 1) y0 y1 y2))
 | 0 => fun _ _ _ r h => by simp [chancelref1_Of.l0] at h
 | k + 1 => by
  have ih0 := chancelref1_Of.mono_l k
  ·
   intro y0 y1 y2
   unfold chancelref1_Of.l0
   repeat' first
   | (with_reducible exact ih0 _ _ _)
   | (with_reducible exact LeO.refl _)
   | (with_reducible exact LeO.none _)
   | (with_reducible refine LeO.ite ?_ ?_)
   | (with_reducible refine LeO.bind ?_ (fun _ => ?_))
   | exact ih0 _ _ _
   | exact LeO.none _
   | refine LeO.ite ?_ ?_
   | refine LeO.bind ?_ (fun _ => ?_)
theorem chancelref1_Of.mono : ∀ a0 k, LeO (chancelref1_Of.f k a0) (chancelref1_Of.f (k + 1) a0) := by
 intro a0 k
 have ih0 := chancelref1_Of.mono_l k
 unfold chancelref1_Of.f
 repeat' first
   | (with_reducible exact ih0 _ _ _)
   | (with_reducible exact LeO.refl _)
   | (with_reducible exact LeO.none _)
   | (with_reducible refine LeO.ite ?_ ?_)
   | (with_reducible refine LeO.bind ?_ (fun _ => ?_))
   | exact ih0 _ _ _
   | exact LeO.none _
   | refine LeO.ite ?_ ?_
   | refine LeO.bind ?_ (fun _ => ?_)
set_option maxHeartbeats 8000000 in
set_option maxRecDepth 100000 in
theorem chancelref1_Of.calls (k : Nat) (A0 : Option Addr) (c0 : Nat) (l0 : List Int) (r1 : ByteArray) (r2 : Int) (w : World) (hr0 : Kd.C (Kd.int .i32) w A0 l0.length l0) (hc0 : l0.length ≤ c0) (h : chancelref1_Of.f k l0 = some (r1, r2)) :
  Calls Tryz.prog 57 #[.slice A0 l0.length c0] w fun e w' => e = .returned (.tuple #[.string r1, .int .i64 r2]) ∧ Below w.heap.size w w' := by
 have HR0 := aZ_ hr0
 have HC0 := aZ_ hc0
 clear hr0 hc0
 have HB := aZ_ (Below.refl w.heap.size w)
 have H : (chancelref1_Of.l0 k l0 ([] : List Int) 0) = some (r1, r2) := h
 clear h
 have H' := aZ_ H
 clear H
 go_enter Tryz.func57, Tryz.ntmps57
 go_wp2
 go_loopg [4, 5] k (fun kq v4 v5 w' => ∃ (x4_1 : List Int) (x5_1 : Int), v5 = .int .i64 x5_1 ∧ Aside0 (chancelref1_Of.l0 kq l0 x4_1 x5_1 = some (r1, r2)) ∧ Aside0 (kq ≤ k) ∧ Aside0 (Kd.R (Kd.int .u8) 5 w' w.heap.size (fun _ => True) v4 x4_1) ∧ Aside0 (Below w.heap.size w w'))
 case atStart => exact ⟨(([] : List Int)), (0), rf_, H', ⟨Nat.le_refl _⟩, ⟨by first | exact Kd.R_nil _ _ _ _ _ | exact Kd.N_nil _ _ _ _ _ | exact Kd.V_nil _ _ _ _ _ | exact Kd.Q_nil _ _ _ _ _ | exact Kd.S_nil _ _ _ _ _⟩, ⟨bl HB⟩⟩
 case round =>
  clear H'
  obtain ⟨x4_1, x5_1, rfl, HA, HK1, HO_4, HB⟩ := hrel
  cases gk with
  | zero => exact absurd HA.out (by simp [chancelref1_Of.l0])
  | succ k1 =>
   have H := HA.out
   clear HA
   simp only [chancelref1_Of.l0] at H
   by_cases c2 : x5_1 < (l0.length : Int)
   ·
    rw [if_pos c2] at H
    have c2b0 : decide (x5_1 < (l0.length : Int)) = true := decide_eq_true c2
    clear c2
    by_cases c3 : 0 ≤ x5_1
    ·
     rw [if_pos c3] at H
     have c3b0 : decide (0 ≤ x5_1) = true := decide_eq_true c3
     clear c3
     replace H := Option.bind_eq_some_iff.mp H
     obtain ⟨t201, A40, H⟩ := H
     replace H : (if t201 = true then ((chancelref1_put.f x4_1 (rd l0 x5_1)).bind fun t203 => (chancelref1_Of.l0 k1 l0 t203 (wrap64 (x5_1 + 1)))) else (some ((⟨#[]⟩ : ByteArray), 11))) = some (r1, r2) := H
     have A4 := aZ_ A40
     clear A40
     by_cases c5 : t201 = true
     ·
      subst c5
      have H1 : ((chancelref1_put.f x4_1 (rd l0 x5_1)).bind fun t203 => (chancelref1_Of.l0 k1 l0 t203 (wrap64 (x5_1 + 1)))) = some (r1, r2) := by rw [if_pos rfl] at H; exact H
      clear H
      have H := H1
      clear H1
      replace H := Option.bind_eq_some_iff.mp H
      obtain ⟨t203, A60, H⟩ := H
      replace H : (chancelref1_Of.l0 k1 l0 t203 (wrap64 (x5_1 + 1))) = some (r1, r2) := H
      have A6 := aZ_ A60
      clear A60
      have H' := aZ_ H
      clear H
      have p200 : 0 ≤ (x5_1 : Int) := of_decide_eq_true asm_
      have q200 : x5_1 < (l0.length : Int) := of_decide_eq_true asm_
      obtain ⟨ad200, e200, hx200_0⟩ := Kd.at_int HR0.out x5_1 p200 q200
      cases e200
      replace hx200_0 := (hbc HB.out hx200_0 :)
      replace p200 := eq_true p200
      replace q200 := eq_true q200
      go_wp2_with (first | ((with_reducible refine gate_callee (f := 77) rfl ?_); refine goesL_ (some 16) rfl rfl Tryz.func77 (by kernel_rfl) rfl #[.int .i32 (rd l0 x5_1)] rfl gm_ ?_; (with_reducible refine (chancelref1_Is.calls (rd l0 x5_1) true _ A4.out).mono ?_); rintro e w' ⟨rfl, ⟨nd, rfl⟩⟩; refine ⟨_, rfl, ?_⟩; have p202 : 0 ≤ (x5_1 : Int) := of_decide_eq_true asm_; have q202 : x5_1 < (l0.length : Int) := of_decide_eq_true asm_; obtain ⟨ad202, e202, hx202_0⟩ := Kd.at_int HR0.out x5_1 p202 q202; obtain rfl : ad200 = ad202 := (by injection e202); replace hx202_0 := (hbc HB.out hx202_0 :); replace p202 := eq_true p202; replace q202 := eq_true q202; obtain ⟨Ao7, co7, eo7⟩ := Kd.R_slice HO_4.out; subst eo7) | ((with_reducible refine gate_callee (f := 78) rfl ?_); refine goesL_ (some 23) rfl rfl Tryz.func78 (by kernel_rfl) rfl #[.slice Ao7 x4_1.length co7, .int .i32 (rd l0 x5_1)] rfl gm_ ?_; (with_reducible refine (chancelref1_put.calls (fun k_ => some k_ = (.slice Ao7 x4_1.length co7 : Value).ownBlock) (.slice Ao7 x4_1.length co7) x4_1 (rd l0 x5_1) t203 w _ ?side1 ?side2 A6.out).mono ?_); (case side1 => repeat (first | (with_reducible first | exact HB.out | apply below_alloc | apply pw_below_drewN | apply below_drew1) | exact HB.out)); (case side2 => exact Kd.R_tight rfl HO_4.out); rintro e w8 ⟨v204, rfl, ho0, hb, hkp⟩; refine ⟨_, rfl, ?_⟩; have HO205 := aZ_ (Kd.R_mono (ok' := fun k_ => True) ho0 (fun k_ hk_ => trivial)); replace HB := aZ_ (hb); clear HO_4; (try clear hb); (try clear hkp); (try clear ho0)))
      go_roundg k1
      case measure => have := HK1.out; omega
      case rel => exact ⟨(t203), (wrap64 (x5_1 + 1)), rf_, H', ⟨by have := HK1.out; omega⟩, ⟨kR HO205⟩, ⟨bl HB⟩⟩
     ·
      replace c5 := Bool.eq_false_iff.mpr c5
      subst c5
      have H1 : (some ((⟨#[]⟩ : ByteArray), 11)) = some (r1, r2) := by rw [if_neg (show ¬ (false = true) by decide)] at H; exact H
      clear H
      have H := H1
      clear H1
      simp only [Option.some.injEq, Prod.mk.injEq] at H
      obtain ⟨rfl, rfl⟩ := H
      have p200 : 0 ≤ (x5_1 : Int) := of_decide_eq_true asm_
      have q200 : x5_1 < (l0.length : Int) := of_decide_eq_true asm_
      obtain ⟨ad200, e200, hx200_0⟩ := Kd.at_int HR0.out x5_1 p200 q200
      cases e200
      replace hx200_0 := (hbc HB.out hx200_0 :)
      replace p200 := eq_true p200
      replace q200 := eq_true q200
      go_wp2_with (first | ((with_reducible refine gate_callee (f := 77) rfl ?_); refine goesL_ (some 16) rfl rfl Tryz.func77 (by kernel_rfl) rfl #[.int .i32 (rd l0 x5_1)] rfl gm_ ?_; (with_reducible refine (chancelref1_Is.calls (rd l0 x5_1) false _ A4.out).mono ?_); rintro e w' ⟨rfl, ⟨nd, rfl⟩⟩; refine ⟨_, rfl, ?_⟩))
      go_ret2
      exact ⟨by first | rfl | (simp [errW_none, errW_some] <;> rfl) | (simp [*, errW_none, errW_some] <;> rfl), bl HB⟩
    ·
     rw [if_neg c3] at H
     exact absurd H (by simp)
   ·
    rw [if_neg c2] at H
    have c2b0 : decide (x5_1 < (l0.length : Int)) = false := decide_eq_false c2
    clear c2
    simp only [Option.some.injEq, Prod.mk.injEq] at H
    obtain ⟨rfl, rfl⟩ := H
    have hcv9 := own_string (P := Tryz.prog) Tryz.underlying91 Tryz.underlying5 Tryz.underlying9 (Kd.own_of_R HO_4.out)
    go_wp2
    go_ret2
    exact ⟨by first | rfl | (simp [errW_none, errW_some] <;> rfl) | (simp [*, errW_none, errW_some] <;> rfl), bl HB⟩

/-! ### chancellaw1_Of: function 38 -/
def chancellaw1_Of.l0 : Nat → List Int → List Int → List Int → Int → Option (ByteArray)
 | 0, _, _, _, _ => none
 | k + 1, x0, x3, x4, x5 => if x5 < (x0.length : Int) then (if x5 < 40 then (if 0 ≤ x5 then ((chancellaw1_within.f (rd x0 x5) (x3.length : Int)).bind fun t210 => (if 0 ≤ t210 then (if t210 < (x3.length : Int) then (if x4.length < 35184372088832 then (chancellaw1_Of.l0 k x0 x3 (x4 ++ [rd x3 t210]) (wrap64 (x5 + 1))) else (none)) else (none)) else (none))) else (none)) else ((chancelref1_Of.f k x4).bind fun bt215 => (some bt215.1))) else ((chancelref1_Of.f k x4).bind fun bt217 => (some bt217.1))
def chancellaw1_Of.f (k : Nat) (l0 : List Int) : Option (ByteArray) := chancellaw1_Of.l0 k l0 (([97, 98, 42, 34, 92, 10, 9, 1, 31, 127, 128, 233, 2047, 2048, 8364, 55295, 57344, 65533, 65535, 65536, 128512, 1114111] : List Int)) ([] : List Int) 0
theorem chancellaw1_Of.mono_l : ∀ k, (∀ y0 y1 y2 y3, LeO (chancellaw1_Of.l0 k y0 y1 y2 y3) (chancellaw1_Of.l0 (k + 1) y0 y1 y2 y3))
 | 0 => fun _ _ _ _ r h => by simp [chancellaw1_Of.l0] at h
 | k + 1 => by
  have ih0 := chancellaw1_Of.mono_l k
  ·
   intro y0 y1 y2 y3
   unfold chancellaw1_Of.l0
   repeat' first
   | (with_reducible exact ih0 _ _ _ _)
   | (with_reducible exact chancelref1_Of.mono _ _)
   | (with_reducible exact LeO.refl _)
   | (with_reducible exact LeO.none _)
   | (with_reducible refine LeO.ite ?_ ?_)
   | (with_reducible refine LeO.bind ?_ (fun _ => ?_))
   | exact ih0 _ _ _ _
   | exact chancelref1_Of.mono _ _
   | exact LeO.none _
   | refine LeO.ite ?_ ?_
   | refine LeO.bind ?_ (fun _ => ?_)
theorem chancellaw1_Of.mono : ∀ a0 k, LeO (chancellaw1_Of.f k a0) (chancellaw1_Of.f (k + 1) a0) := by
 intro a0 k
 have ih0 := chancellaw1_Of.mono_l k
 unfold chancellaw1_Of.f
 repeat' first
   | (with_reducible exact ih0 _ _ _ _)
   | (with_reducible exact chancelref1_Of.mono _ _)
   | (with_reducible exact LeO.refl _)
   | (with_reducible exact LeO.none _)
   | (with_reducible refine LeO.ite ?_ ?_)
   | (with_reducible refine LeO.bind ?_ (fun _ => ?_))
   | exact ih0 _ _ _ _
   | exact chancelref1_Of.mono _ _
   | exact LeO.none _
   | refine LeO.ite ?_ ?_
   | refine LeO.bind ?_ (fun _ => ?_)
set_option maxHeartbeats 8000000 in
set_option maxRecDepth 100000 in
theorem chancellaw1_Of.calls (k : Nat) (A0 : Option Addr) (c0 : Nat) (l0 : List Int) (r : ByteArray) (w : World) (hr0 : Kd.C (Kd.int .i64) w A0 l0.length l0) (hc0 : l0.length ≤ c0) (h : chancellaw1_Of.f k l0 = some r) :
  Calls Tryz.prog 38 #[.slice A0 l0.length c0] w fun e w' => e = .returned (.string r) ∧ Below w.heap.size w w' := by
 have HR0 := aZ_ hr0
 have HC0 := aZ_ hc0
 clear hr0 hc0
 have HB := aZ_ (Below.refl w.heap.size w)
 have H : (chancellaw1_Of.l0 k l0 (([97, 98, 42, 34, 92, 10, 9, 1, 31, 127, 128, 233, 2047, 2048, 8364, 55295, 57344, 65533, 65535, 65536, 128512, 1114111] : List Int)) ([] : List Int) 0) = some r := h
 clear h
 obtain ⟨y206, hy206⟩ : ∃ y_ : List Int, y_ = (([97, 98, 42, 34, 92, 10, 9, 1, 31, 127, 128, 233, 2047, 2048, 8364, 55295, 57344, 65533, 65535, 65536, 128512, 1114111] : List Int)) := ⟨_, rfl⟩
 replace H : (chancellaw1_Of.l0 k l0 y206 ([] : List Int) 0) = some r := by first | (rw [hy206]; with_reducible exact H) | (have H2_ := (Option.bind_some _ _).symm.trans H; rw [hy206]; with_reducible exact H2_) | (have H2_ := (Option.bind_some _ _).symm.trans H; with_reducible exact H2_) | with_reducible exact H | (rw [hy206]; exact H) | exact H
 have Ny206 := aZ_ hy206
 clear hy206
 have H' := aZ_ H
 clear H
 go_enter Tryz.func38, Tryz.ntmps38
 go_wp2_with (first | ((with_reducible refine gate_dst (N := 8) rfl ?_); refine Kd.R_lit (Kd.int .i32) _ 21 ?hg (N := 8) ?hd (xs := ([97, 98, 42, 34, 92, 10, 9, 1, 31, 127, 128, 233, 2047, 2048, 8364, 55295, 57344, 65533, 65535, 65536, 128512, 1114111] : List Int)) (inner := [.int .i32 97, .int .i32 98, .int .i32 42, .int .i32 34, .int .i32 92, .int .i32 10, .int .i32 9, .int .i32 1, .int .i32 31, .int .i32 127, .int .i32 128, .int .i32 233, .int .i32 2047, .int .i32 2048, .int .i32 8364, .int .i32 55295, .int .i32 57344, .int .i32 65533, .int .i32 65535, .int .i32 65536, .int .i32 128512, .int .i32 1114111]) (ok := fun _ => True) (okp := fun _ => True) ?hr ?hp (fun _ hk => hk) trivial (Below.refl _ _) (Nat.le_refl _) (by simp) ?_; (case hd => rfl); (case hg => rfl); (case hr => first | (go_simp; done) | (go_simp; rfl)); (case hp => exact (Reps.one (show Kd.M (Kd.int .i32) _ _ _ 97 [.int .i32 97] from rfl) (Reps.one (show Kd.M (Kd.int .i32) _ _ _ 98 [.int .i32 98] from rfl) (Reps.one (show Kd.M (Kd.int .i32) _ _ _ 42 [.int .i32 42] from rfl) (Reps.one (show Kd.M (Kd.int .i32) _ _ _ 34 [.int .i32 34] from rfl) (Reps.one (show Kd.M (Kd.int .i32) _ _ _ 92 [.int .i32 92] from rfl) (Reps.one (show Kd.M (Kd.int .i32) _ _ _ 10 [.int .i32 10] from rfl) (Reps.one (show Kd.M (Kd.int .i32) _ _ _ 9 [.int .i32 9] from rfl) (Reps.one (show Kd.M (Kd.int .i32) _ _ _ 1 [.int .i32 1] from rfl) (Reps.one (show Kd.M (Kd.int .i32) _ _ _ 31 [.int .i32 31] from rfl) (Reps.one (show Kd.M (Kd.int .i32) _ _ _ 127 [.int .i32 127] from rfl) (Reps.one (show Kd.M (Kd.int .i32) _ _ _ 128 [.int .i32 128] from rfl) (Reps.one (show Kd.M (Kd.int .i32) _ _ _ 233 [.int .i32 233] from rfl) (Reps.one (show Kd.M (Kd.int .i32) _ _ _ 2047 [.int .i32 2047] from rfl) (Reps.one (show Kd.M (Kd.int .i32) _ _ _ 2048 [.int .i32 2048] from rfl) (Reps.one (show Kd.M (Kd.int .i32) _ _ _ 8364 [.int .i32 8364] from rfl) (Reps.one (show Kd.M (Kd.int .i32) _ _ _ 55295 [.int .i32 55295] from rfl) (Reps.one (show Kd.M (Kd.int .i32) _ _ _ 57344 [.int .i32 57344] from rfl) (Reps.one (show Kd.M (Kd.int .i32) _ _ _ 65533 [.int .i32 65533] from rfl) (Reps.one (show Kd.M (Kd.int .i32) _ _ _ 65535 [.int .i32 65535] from rfl) (Reps.one (show Kd.M (Kd.int .i32) _ _ _ 65536 [.int .i32 65536] from rfl) (Reps.one (show Kd.M (Kd.int .i32) _ _ _ 128512 [.int .i32 128512] from rfl) (Reps.one (show Kd.M (Kd.int .i32) _ _ _ 1114111 [.int .i32 1114111] from rfl) (Reps.none _ _)))))))))))))))))))))))); intro v207 w2 ho3 hb hg_ hnew_; clear hg_ hnew_; (first | rw [← Ny206.out] at ho3 | (simp only [Int.reduceToNat] at ho3; rw [← Ny206.out] at ho3)); have HO208 := aZ_ (Kd.R_lower ho3 (below_size (bl HB))); replace HB := aZ_ (below_step (bl HB) hb); clear hb ho3))
 go_loopg [4, 5] k (fun kq v4 v5 w' => ∃ (x4_1 : List Int) (x5_1 : Int), v5 = .int .i64 x5_1 ∧ Aside0 (chancellaw1_Of.l0 kq l0 y206 x4_1 x5_1 = some r) ∧ Aside0 (kq ≤ k) ∧ Aside0 (Kd.R (Kd.int .i32) 21 w' w.heap.size (fun k_ => some k_ ≠ (v4 : Value).ownBlock) v207 y206) ∧ Aside0 (Kd.R (Kd.int .i32) 21 w' w.heap.size (fun k_ => some k_ ≠ (v207 : Value).ownBlock) v4 x4_1) ∧ Aside0 (Below w.heap.size w w'))
 case atStart => exact ⟨(([] : List Int)), (0), rf_, H', ⟨Nat.le_refl _⟩, ⟨by (with_reducible repeat (first | apply Kd.R_alloc | apply Kd.R_drewN | apply Kd.R_drew)); exact Kd.R_mono HO208.out (fun _ hk => (by simp [Value.ownBlock]))⟩, ⟨by first | exact Kd.R_nil _ _ _ _ _ | exact Kd.N_nil _ _ _ _ _ | exact Kd.V_nil _ _ _ _ _ | exact Kd.Q_nil _ _ _ _ _ | exact Kd.S_nil _ _ _ _ _⟩, ⟨bl HB⟩⟩
 case round =>
  clear H'
  try clear p2
  try clear c3
  obtain ⟨x4_1, x5_1, rfl, HA, HK1, HO_3, HO_4, HB⟩ := hrel
  cases gk with
  | zero => exact absurd HA.out (by simp [chancellaw1_Of.l0])
  | succ k1 =>
   have H := HA.out
   clear HA
   simp only [chancellaw1_Of.l0] at H
   by_cases c4 : x5_1 < (l0.length : Int)
   ·
    rw [if_pos c4] at H
    have c4b0 : decide (x5_1 < (l0.length : Int)) = true := decide_eq_true c4
    clear c4
    by_cases c5 : x5_1 < 40
    ·
     rw [if_pos c5] at H
     have c5b0 : decide (x5_1 < 40) = true := decide_eq_true c5
     clear c5
     by_cases c6 : 0 ≤ x5_1
     ·
      rw [if_pos c6] at H
      have c6b0 : decide (0 ≤ x5_1) = true := decide_eq_true c6
      clear c6
      replace H := Option.bind_eq_some_iff.mp H
      obtain ⟨t210, A70, H⟩ := H
      replace H : (if 0 ≤ t210 then (if t210 < (y206.length : Int) then (if x4_1.length < 35184372088832 then (chancellaw1_Of.l0 k1 l0 y206 (x4_1 ++ [rd y206 t210]) (wrap64 (x5_1 + 1))) else (none)) else (none)) else (none)) = some r := H
      have A7 := aZ_ A70
      clear A70
      by_cases c8 : 0 ≤ t210
      ·
       rw [if_pos c8] at H
       have c8b0 : decide (0 ≤ t210) = true := decide_eq_true c8
       clear c8
       by_cases c9 : t210 < (y206.length : Int)
       ·
        rw [if_pos c9] at H
        have c9b0 : decide (t210 < (y206.length : Int)) = true := decide_eq_true c9
        clear c9
        by_cases c10 : x4_1.length < 35184372088832
        ·
         rw [if_pos c10] at H
         have LMc10 := aZ_ c10
         clear c10
         obtain ⟨y212, hy212⟩ : ∃ y_ : List Int, y_ = (x4_1 ++ [rd y206 t210]) := ⟨_, rfl⟩
         replace H : (chancellaw1_Of.l0 k1 l0 y206 y212 (wrap64 (x5_1 + 1))) = some r := by first | (rw [hy212]; with_reducible exact H) | (have H2_ := (Option.bind_some _ _).symm.trans H; rw [hy212]; with_reducible exact H2_) | (have H2_ := (Option.bind_some _ _).symm.trans H; with_reducible exact H2_) | with_reducible exact H | (rw [hy212]; exact H) | exact H
         have Ny212 := aZ_ hy212
         clear hy212
         have H' := aZ_ H
         clear H
         have p209 : 0 ≤ (x5_1 : Int) := of_decide_eq_true asm_
         have q209 : x5_1 < (l0.length : Int) := of_decide_eq_true asm_
         obtain ⟨ad209, e209, hx209_0⟩ := Kd.at_int HR0.out x5_1 p209 q209
         cases e209
         replace hx209_0 := (hbc HB.out hx209_0 :)
         replace p209 := eq_true p209
         replace q209 := eq_true q209
         obtain ⟨Ao11, co11, eo11⟩ := Kd.R_slice HO_3.out
         subst eo11
         go_wp2_with (first | ((with_reducible refine gate_callee (f := 56) rfl ?_); refine goesL_ (some 27) rfl rfl Tryz.func56 (by kernel_rfl) rfl #[.int .i64 (rd l0 x5_1), .int .i64 (y206.length : Int)] rfl gm_ ?_; (with_reducible refine (chancellaw1_within.calls (rd l0 x5_1) (y206.length : Int) t210 _ A7.out).mono ?_); rintro e w' ⟨rfl, ⟨nd, rfl⟩⟩; refine ⟨_, rfl, ?_⟩; have p211 : 0 ≤ (t210 : Int) := of_decide_eq_true asm_; have q211 : t210 < (y206.length : Int) := of_decide_eq_true asm_; obtain ⟨ad211, e211, hx211_0⟩ := Kd.at_int (Kd.R_reads' HO_3.out).2.2 t210 p211 q211; cases e211; replace p211 := eq_true p211; replace q211 := eq_true q211) | ((with_reducible refine gate_builtin (b := .append) (xs := #[.tmp 19, .tmp 30]) rfl ?_); at_builtin; refine Kd.R_append (Kd.int .i32) (w0 := w) w.heap.size rfl (.tmp 19) (.tmp 30) 127 21 (.int .i32 0) 4 rfl Tryz.underlying127 info21 rfl (by decide) (by omega) u4 x4_1 (rd y206 t210) [.int .i32 (rd y206 t210)] (fun k_ => some k_ ≠ (.slice (some ad211) y206.length co11 : Value).ownBlock) (fun _ => False) rfl rfl ?aP (fun _ hk => hk.elim) ?aF ?aO ?aB ?aS ?aL ?_; (case aP => exact rfl); (case aB => exact (bl HB)); (case aF => exact (fun k_ hk => Kd.fresh' (Kd.R_lt (kR HO_3)) k_ hk)); (case aO => exact (kR HO_4)); (case aS => exact (below_size (bl HB))); (case aL => have := LMc10.out; omega); intro v213 w12 ho hb hg hat; rw [← Ny212.out] at ho; replace HO_3 := aZ_ (Kd.R_after (ok := (fun _ => True)) (by (with_reducible repeat (first | apply Kd.R_alloc | apply Kd.R_drewN | apply Kd.R_drew)); exact Kd.R_mono HO_3.out (fun _ hk => ⟨trivial, hk⟩)) hg hat); replace HB := aZ_ (hb); have HO214 := aZ_ (ho); clear HO_4; clear ho hb hg hat))
         go_roundg k1
         case measure => have := HK1.out; omega
         case rel => exact ⟨(y212), (wrap64 (x5_1 + 1)), rf_, H', ⟨by have := HK1.out; omega⟩, ⟨by (with_reducible repeat (first | apply Kd.R_alloc | apply Kd.R_drewN | apply Kd.R_drew)); exact Kd.R_mono HO_3.out (fun _ hk => hk.2)⟩, ⟨kR HO214⟩, ⟨bl HB⟩⟩
        ·
         rw [if_neg c10] at H
         exact absurd H (by simp)
       ·
        rw [if_neg c9] at H
        exact absurd H (by simp)
      ·
       rw [if_neg c8] at H
       exact absurd H (by simp)
     ·
      rw [if_neg c6] at H
      exact absurd H (by simp)
    ·
     rw [if_neg c5] at H
     have c5b0 : decide (x5_1 < 40) = false := decide_eq_false c5
     clear c5
     replace H := Option.bind_eq_some_iff.mp H
     obtain ⟨⟨t215, t216⟩, A130, H⟩ := H
     replace H : (some t215) = some r := H
     have A13 := aZ_ A130
     clear A130
     obtain rfl := Option.some.inj H
     obtain ⟨Ao14, co14, eo14⟩ := Kd.R_slice HO_4.out
     subst eo14
     go_wp2_with (first | ((with_reducible refine gate_callee (f := 57) rfl ?_); refine goesL_ (some 34) rfl rfl Tryz.func57 (by kernel_rfl) rfl #[.slice Ao14 x4_1.length co14] rfl gm_ ?_; (with_reducible refine (chancelref1_Of.calls k1 _ _ x4_1 t215 t216 _ ?side1 ?side2 A13.out).mono ?_); (case side1 => repeat (first | exact (Kd.R_reads' HO_4.out).2.2 | (with_reducible refine Kd.C_alloc ?_ _) | (with_reducible refine Kd.C_drewN ?_ _) | (with_reducible refine Kd.C_drew ?_))); (case side2 => exact (Kd.R_reads' HO_4.out).2.1); rintro e w15 ⟨rfl, hb⟩; refine ⟨_, rfl, ?_⟩; replace HO_3 := aZ_ (Kd.R_below (kR HO_3) hb); replace HO_4 := aZ_ (Kd.R_below (kR HO_4) hb); replace HB := aZ_ (below_step (bl HB) hb); (try clear hb); (try clear hb2); (try clear hk); (try clear hi)))
     go_ret
     exact ⟨by first | rfl | (simp [errW_none, errW_some] <;> rfl) | (simp [*, errW_none, errW_some] <;> rfl), bl HB⟩
   ·
    rw [if_neg c4] at H
    have c4b0 : decide (x5_1 < (l0.length : Int)) = false := decide_eq_false c4
    clear c4
    replace H := Option.bind_eq_some_iff.mp H
    obtain ⟨⟨t217, t218⟩, A160, H⟩ := H
    replace H : (some t217) = some r := H
    have A16 := aZ_ A160
    clear A160
    obtain rfl := Option.some.inj H
    obtain ⟨Ao17, co17, eo17⟩ := Kd.R_slice HO_4.out
    subst eo17
    go_wp2_with (first | ((with_reducible refine gate_callee (f := 57) rfl ?_); refine goesL_ (some 34) rfl rfl Tryz.func57 (by kernel_rfl) rfl #[.slice Ao17 x4_1.length co17] rfl gm_ ?_; (with_reducible refine (chancelref1_Of.calls k1 _ _ x4_1 t217 t218 _ ?side1 ?side2 A16.out).mono ?_); (case side1 => repeat (first | exact (Kd.R_reads' HO_4.out).2.2 | (with_reducible refine Kd.C_alloc ?_ _) | (with_reducible refine Kd.C_drewN ?_ _) | (with_reducible refine Kd.C_drew ?_))); (case side2 => exact (Kd.R_reads' HO_4.out).2.1); rintro e w18 ⟨rfl, hb⟩; refine ⟨_, rfl, ?_⟩; replace HO_3 := aZ_ (Kd.R_below (kR HO_3) hb); replace HO_4 := aZ_ (Kd.R_below (kR HO_4) hb); replace HB := aZ_ (below_step (bl HB) hb); (try clear hb); (try clear hb2); (try clear hk); (try clear hi)))
    go_ret
    exact ⟨by first | rfl | (simp [errW_none, errW_some] <;> rfl) | (simp [*, errW_none, errW_some] <;> rfl), bl HB⟩

end Go.Proofs.YtelibndkkokadaaGreat.GB
namespace Go.Proofs.YtelibndkkokadaaGreat.GB
open Go.RowKit Go.Proofs.YtelibndkkokadaaGreatW.PrintWords Go.Proofs.YtelibndkkokadaaGreatW.PrintLast Go.Proofs.YtelibndkkokadaaGreat.HandV Go.Proofs.YtelibndkkokadaaGreatW.PrintMore
attribute [local go_sem] max2_int min2_int max_two min_two max_three min_three max_four min_four   -- for this text's walks alone
set_option linter.unusedVariables false
set_option linter.unusedSimpArgs false

/-! ### chancellaw3_id: function 59 -/
def chancellaw3_id.f (k : Nat) (l0 : List Int) : Option (ByteArray) := if (l0.length : Int) > 30 then (if 30 ≤ (l0.length : Int) then ((chancellaw1_Of.f k (l0.take 30)).bind fun t220 => (some t220)) else (none)) else ((chancellaw1_Of.f k l0).bind fun t221 => (some t221))
theorem chancellaw3_id.mono : ∀ a0 k, LeO (chancellaw3_id.f k a0) (chancellaw3_id.f (k + 1) a0) := by
 intro a0 k
 unfold chancellaw3_id.f
 repeat' first
   | (with_reducible exact chancellaw1_Of.mono _ _)
   | (with_reducible exact LeO.refl _)
   | (with_reducible exact LeO.none _)
   | (with_reducible refine LeO.ite ?_ ?_)
   | (with_reducible refine LeO.bind ?_ (fun _ => ?_))
   | exact chancellaw1_Of.mono _ _
   | exact LeO.none _
   | refine LeO.ite ?_ ?_
   | refine LeO.bind ?_ (fun _ => ?_)
set_option maxHeartbeats 8000000 in
set_option maxRecDepth 100000 in
theorem chancellaw3_id.calls (k : Nat) (A0 : Option Addr) (c0 : Nat) (l0 : List Int) (r : ByteArray) (w : World) (hr0 : Kd.C (Kd.int .i64) w A0 l0.length l0) (hc0 : l0.length ≤ c0) (h : chancellaw3_id.f k l0 = some r) :
  Calls Tryz.prog 59 #[.slice A0 l0.length c0] w fun e w' => e = .returned (.string r) ∧ Below w.heap.size w w' := by
 have HR0 := aZ_ hr0
 have HC0 := aZ_ hc0
 clear hr0 hc0
 have HB := aZ_ (Below.refl w.heap.size w)
 have H : (if (l0.length : Int) > 30 then (if 30 ≤ (l0.length : Int) then ((chancellaw1_Of.f k (l0.take 30)).bind fun t220 => (some t220)) else (none)) else ((chancellaw1_Of.f k l0).bind fun t221 => (some t221))) = some r := h
 clear h
 by_cases c2 : (l0.length : Int) > 30
 ·
  rw [if_pos c2] at H
  have c2b0 : decide (30 < (l0.length : Int)) = true := decide_eq_true c2
  have c2b1 : decide (30 < l0.length) = true := decide_eq_true (by omega)
  clear c2
  by_cases c3 : 30 ≤ (l0.length : Int)
  ·
   rw [if_pos c3] at H
   have c3b0 := eq_true c3
   have c3b1 : decide (30 ≤ (l0.length : Int)) = true := decide_eq_true c3
   clear c3
   replace H := Option.bind_eq_some_iff.mp H
   obtain ⟨t220, A40, H⟩ := H
   replace H : (some t220) = some r := H
   have A4 := aZ_ A40
   clear A40
   obtain rfl := Option.some.inj H
   obtain ⟨i05, hi05, _, hsz5, _⟩ := info_parts info3
   obtain ⟨hcut5, hA5, hC5⟩ := print_take_of (P := Tryz.prog) (Value.int .i64) 0 23 3 .i64 Tryz.underlying23 hi05 hsz5 A0 c0 l0 30 (by omega) (of_decide_eq_true asm_) HC0.out
   have HR219 := aZ_ (Kd.C_of_reads (h1 := fun _ => rfl) (hA5 _ (Kd.reads_of_C HR0.out)))
   have HC219 := aZ_ hC5
   clear hA5 hC5 hi05 hsz5
   go_enter Tryz.func59, Tryz.ntmps59
   go_wp2_with (first | ((with_reducible refine gate_callee (f := 38) rfl ?_); refine goesL_ (some 9) rfl rfl Tryz.func38 (by kernel_rfl) rfl #[.slice A0 (l0.take 30).length c0] rfl (by (try simp only [List.map_toArray, List.map_cons, List.map_nil]); first | done | (rw [show (l0.take 30).length = 30 from (by rw [List.length_take]; have h_ : (30 : Int) ≤ (l0.length : Int) := of_decide_eq_true asm_; omega)] <;> rfl) | rfl | (simp only [List.length_drop, List.length_take]; rfl)) ?_; (with_reducible refine (chancellaw1_Of.calls k _ _ (l0.take 30) t220 _ ?side1 ?side2 A4.out).mono ?_); (case side1 => repeat (first | exact HR219.out | (with_reducible refine Kd.C_alloc ?_ _) | (with_reducible refine Kd.C_drewN ?_ _) | (with_reducible refine Kd.C_drew ?_))); (case side2 => exact HC219.out); rintro e w6 ⟨rfl, hb⟩; refine ⟨_, rfl, ?_⟩; replace HB := aZ_ (below_step (bl HB) hb); (try clear hb); (try clear hb2); (try clear hk); (try clear hi)))
   go_ret
   exact ⟨by first | rfl | (simp [errW_none, errW_some] <;> rfl) | (simp [*, errW_none, errW_some] <;> rfl), bl HB⟩
  ·
   rw [if_neg c3] at H
   exact absurd H (by simp)
 ·
  rw [if_neg c2] at H
  have c2b0 : decide (30 < (l0.length : Int)) = false := decide_eq_false c2
  have c2b1 : decide (30 < l0.length) = false := decide_eq_false (by omega)
  clear c2
  replace H := Option.bind_eq_some_iff.mp H
  obtain ⟨t221, A70, H⟩ := H
  replace H : (some t221) = some r := H
  have A7 := aZ_ A70
  clear A70
  obtain rfl := Option.some.inj H
  go_enter Tryz.func59, Tryz.ntmps59
  go_wp2_with (first | ((with_reducible refine gate_callee (f := 38) rfl ?_); refine goesL_ (some 9) rfl rfl Tryz.func38 (by kernel_rfl) rfl #[.slice A0 l0.length c0] rfl gm_ ?_; (with_reducible refine (chancellaw1_Of.calls k _ _ l0 t221 _ ?side1 ?side2 A7.out).mono ?_); (case side1 => repeat (first | exact HR0.out | (with_reducible refine Kd.C_alloc ?_ _) | (with_reducible refine Kd.C_drewN ?_ _) | (with_reducible refine Kd.C_drew ?_))); (case side2 => exact HC0.out); rintro e w8 ⟨rfl, hb⟩; refine ⟨_, rfl, ?_⟩; replace HB := aZ_ (below_step (bl HB) hb); (try clear hb); (try clear hb2); (try clear hk); (try clear hi)))
  go_ret
  exact ⟨by first | rfl | (simp [errW_none, errW_some] <;> rfl) | (simp [*, errW_none, errW_some] <;> rfl), bl HB⟩

/-! ### chancellaw3_Uid: function 60 -/
def chancellaw3_Uid.f (k : Nat) (a0_0 : Int) (a0_1 : Int) (l0_2 : List Int) (l0_3 : List (S94)) : Option (ByteArray × ByteArray) := if (Int.tmod a0_1 5) < 0 then ((some (([(⟨#[85, 115, 101, 114]⟩ : ByteArray), (⟨#[71, 114, 111, 117, 112]⟩ : ByteArray), (⟨#[68, 111, 99]⟩ : ByteArray), (⟨#[65, 99, 116, 105, 111, 110]⟩ : ByteArray), (⟨#[95, 120, 57]⟩ : ByteArray)] : List ByteArray) : List ByteArray)).bind fun y224 => (if 0 ≤ (wrap64 (-(Int.tmod a0_1 5))) then (if (wrap64 (-(Int.tmod a0_1 5))) < (y224.length : Int) then ((chancellaw3_id.f k l0_2).bind fun t228 => (some (rdOf ByteArray.empty y224 (wrap64 (-(Int.tmod a0_1 5))), t228))) else (none)) else (none))) else ((some (([(⟨#[85, 115, 101, 114]⟩ : ByteArray), (⟨#[71, 114, 111, 117, 112]⟩ : ByteArray), (⟨#[68, 111, 99]⟩ : ByteArray), (⟨#[65, 99, 116, 105, 111, 110]⟩ : ByteArray), (⟨#[95, 120, 57]⟩ : ByteArray)] : List ByteArray) : List ByteArray)).bind fun y229 => (if 0 ≤ (Int.tmod a0_1 5) then (if (Int.tmod a0_1 5) < (y229.length : Int) then ((chancellaw3_id.f k l0_2).bind fun t233 => (some (rdOf ByteArray.empty y229 (Int.tmod a0_1 5), t233))) else (none)) else (none)))
theorem chancellaw3_Uid.mono : ∀ a0 a1 a2 a3 k, LeO (chancellaw3_Uid.f k a0 a1 a2 a3) (chancellaw3_Uid.f (k + 1) a0 a1 a2 a3) := by
 intro a0 a1 a2 a3 k
 unfold chancellaw3_Uid.f
 repeat' first
   | (with_reducible exact chancellaw3_id.mono _ _)
   | (with_reducible exact LeO.refl _)
   | (with_reducible exact LeO.none _)
   | (with_reducible refine LeO.ite ?_ ?_)
   | (with_reducible refine LeO.bind ?_ (fun _ => ?_))
   | exact chancellaw3_id.mono _ _
   | exact LeO.none _
   | refine LeO.ite ?_ ?_
   | refine LeO.bind ?_ (fun _ => ?_)
def chancellaw3_Uid.T4 : Bool × List (List Nat × List Nat) := (true, [([], []), ([], []), ([0, 1], [0, 1]), ([2], [2]), ([], []), ([4], [4]), ([5], [5]), ([3, 6], [3, 6]), ([7, 6, 0, 1, 2, 3, 4, 5, 6, 7], [7])])
def chancellaw3_Uid.B4 : List Nat := [0, 0, 3, 7, 0, 16, 48, 127, 255]
theorem chancellaw3_Uid.tab4 : rtab .any (opsOf Tryz.f60 4) = chancellaw3_Uid.T4 := by kernel_rfl
theorem chancellaw3_Uid.bits4 : waitsOk chancellaw3_Uid.T4.2 chancellaw3_Uid.B4 = true := by kernel_rfl
set_option maxHeartbeats 8000000 in
set_option maxRecDepth 100000 in
theorem chancellaw3_Uid.calls (k : Nat) (a0_0 : Int) (a0_1 : Int) (A0_2 : Option Addr) (c0_2 : Nat) (l0_2 : List Int) (A0_3 : Option Addr) (c0_3 : Nat) (l0_3 : List (S94)) (r1 : ByteArray) (r2 : ByteArray) (w : World) (hr0_2 : Kd.C (Kd.int .i64) w A0_2 l0_2.length l0_2) (hc0_2 : l0_2.length ≤ c0_2) (hr0_3 : Kd.C k94 w A0_3 l0_3.length l0_3) (hc0_3 : l0_3.length ≤ c0_3) (h : chancellaw3_Uid.f k a0_0 a0_1 l0_2 l0_3 = some (r1, r2)) :
  Calls Tryz.prog 60 #[.agg #[.int .i64 a0_0, .int .i64 a0_1, .slice A0_2 l0_2.length c0_2, .slice A0_3 l0_3.length c0_3]] w fun e w' => e = .returned (.agg #[.string r1, .string r2]) ∧ Below w.heap.size w w' := by
 have hu94 := Tryz.underlying94
 have hu28 := Tryz.underlying28
 have HR0_2 := aZ_ hr0_2
 have HC0_2 := aZ_ hc0_2
 clear hr0_2 hc0_2
 have HR0_3 := aZ_ hr0_3
 have HC0_3 := aZ_ hc0_3
 clear hr0_3 hc0_3
 have HB := aZ_ (Below.refl w.heap.size w)
 have H : (if (Int.tmod a0_1 5) < 0 then ((some (([(⟨#[85, 115, 101, 114]⟩ : ByteArray), (⟨#[71, 114, 111, 117, 112]⟩ : ByteArray), (⟨#[68, 111, 99]⟩ : ByteArray), (⟨#[65, 99, 116, 105, 111, 110]⟩ : ByteArray), (⟨#[95, 120, 57]⟩ : ByteArray)] : List ByteArray) : List ByteArray)).bind fun y224 => (if 0 ≤ (wrap64 (-(Int.tmod a0_1 5))) then (if (wrap64 (-(Int.tmod a0_1 5))) < (y224.length : Int) then ((chancellaw3_id.f k l0_2).bind fun t228 => (some (rdOf ByteArray.empty y224 (wrap64 (-(Int.tmod a0_1 5))), t228))) else (none)) else (none))) else ((some (([(⟨#[85, 115, 101, 114]⟩ : ByteArray), (⟨#[71, 114, 111, 117, 112]⟩ : ByteArray), (⟨#[68, 111, 99]⟩ : ByteArray), (⟨#[65, 99, 116, 105, 111, 110]⟩ : ByteArray), (⟨#[95, 120, 57]⟩ : ByteArray)] : List ByteArray) : List ByteArray)).bind fun y229 => (if 0 ≤ (Int.tmod a0_1 5) then (if (Int.tmod a0_1 5) < (y229.length : Int) then ((chancellaw3_id.f k l0_2).bind fun t233 => (some (rdOf ByteArray.empty y229 (Int.tmod a0_1 5), t233))) else (none)) else (none)))) = some (r1, r2) := h
 clear h
 by_cases c2 : (Int.tmod a0_1 5) < 0
 ·
  rw [if_pos c2] at H
  have c2b0 : decide ((Int.tmod a0_1 5) < 0) = true := decide_eq_true c2
  clear c2
  obtain ⟨y224, hy224⟩ : ∃ y_ : List ByteArray, y_ = (([(⟨#[85, 115, 101, 114]⟩ : ByteArray), (⟨#[71, 114, 111, 117, 112]⟩ : ByteArray), (⟨#[68, 111, 99]⟩ : ByteArray), (⟨#[65, 99, 116, 105, 111, 110]⟩ : ByteArray), (⟨#[95, 120, 57]⟩ : ByteArray)] : List ByteArray)) := ⟨_, rfl⟩
  replace H : (if 0 ≤ (wrap64 (-(Int.tmod a0_1 5))) then (if (wrap64 (-(Int.tmod a0_1 5))) < (y224.length : Int) then ((chancellaw3_id.f k l0_2).bind fun t228 => (some (rdOf ByteArray.empty y224 (wrap64 (-(Int.tmod a0_1 5))), t228))) else (none)) else (none)) = some (r1, r2) := by first | (rw [hy224]; with_reducible exact H) | (have H2_ := (Option.bind_some _ _).symm.trans H; rw [hy224]; with_reducible exact H2_) | (have H2_ := (Option.bind_some _ _).symm.trans H; with_reducible exact H2_) | with_reducible exact H | (rw [hy224]; exact H) | exact H
  have Ny224 := aZ_ hy224
  clear hy224
  obtain ⟨ji3, hji3⟩ : ∃ j_ : Int, (wrap64 (-(Int.tmod a0_1 5))) = j_ := ⟨_, rfl⟩
  replace H : (if 0 ≤ (ji3) then (if (ji3) < (y224.length : Int) then ((chancellaw3_id.f k l0_2).bind fun t228 => (some (rdOf ByteArray.empty y224 (ji3), t228))) else (none)) else (none)) = some (r1, r2) := by first | (rw [hji3] at H; exact H) | (simp only [hji3] at H ⊢; exact H)
  have hji3w : (IntKind.i64.wrap (-(Int.tmod a0_1 5))) = ji3 := (i64_w _).trans hji3
  by_cases c4 : 0 ≤ (ji3)
  ·
   rw [if_pos c4] at H
   have c4b0 : decide (0 ≤ (ji3)) = true := decide_eq_true c4
   clear c4
   by_cases c5 : (ji3) < (y224.length : Int)
   ·
    rw [if_pos c5] at H
    have c5b0 : decide ((ji3) < (y224.length : Int)) = true := decide_eq_true c5
    clear c5
    replace H := Option.bind_eq_some_iff.mp H
    obtain ⟨t228, A60, H⟩ := H
    replace H : (some (rdOf ByteArray.empty y224 (ji3), t228)) = some (r1, r2) := H
    have A6 := aZ_ A60
    clear A60
    simp only [Option.some.injEq, Prod.mk.injEq] at H
    obtain ⟨rfl, rfl⟩ := H
    go_enter Tryz.func60, Tryz.ntmps60
    try go_wp2_with (first | ((with_reducible refine gate_dst (N := 1) rfl ?_); refine bxE 1 #[.int .i64 a0_0, .int .i64 a0_1, .slice A0_2 l0_2.length c0_2, .slice A0_3 l0_3.length c0_3] 94 ?_; intro gb222 hg w7 hbox hb; have BK222 := aZ_ (hbox); have GW222 := aZ_ ((by rw [hg]; exact (below_size (bl HB)) : w.heap.size ≤ gb222)); have GE222 := aZ_ ((by rw [hg]; exact (below_size (bl HB)) : w.heap.size ≤ gb222)); replace HB := aZ_ (below_step (bl HB) hb); clear hb hbox hg) | ((with_reducible refine gate_dst (N := 2) rfl ?_); refine bxE 2 #[.string (⟨#[]⟩ : ByteArray), .string (⟨#[]⟩ : ByteArray)] 28 ?_; intro gb223 hg w8 hbox hb; have BK223 := aZ_ (hbox); have GW223 := aZ_ ((by rw [hg]; exact (below_size (bl1 HB GE222)) : w.heap.size ≤ gb223)); have GE223 := aZ_ ((by rw [hg]; exact (below_size (bl1 HB GE222)) : w.heap.size ≤ gb223)); replace HB := aZ_ (below_step (bl1 HB GE222) hb); have NB222_223 := aZ_ ((by rw [hg]; exact Nat.ne_of_lt (blk_lt (g := gb222) (o := .cells #[.int .i64 a0_0, .int .i64 a0_1, .slice A0_2 l0_2.length c0_2, .slice A0_3 l0_3.length c0_3] 94 (0, 0)) (bk BK222)) : gb222 ≠ gb223)); have NB223_222 := aZ_ ((by rw [hg]; exact Nat.ne_of_gt (blk_lt (g := gb222) (o := .cells #[.int .i64 a0_0, .int .i64 a0_1, .slice A0_2 l0_2.length c0_2, .slice A0_3 l0_3.length c0_3] 94 (0, 0)) (bk BK222)) : gb223 ≠ gb222)); replace BK222 := aZ_ (blk_below (g := gb222) (o := .cells #[.int .i64 a0_0, .int .i64 a0_1, .slice A0_2 l0_2.length c0_2, .slice A0_3 l0_3.length c0_3] 94 (0, 0)) (bk BK222) hb); clear hb hbox hg; have hnb9 := NB222_223.out; have hnc9 := NB223_222.out; obtain ⟨hcz10_0, hcz10_1, hcz10_2, hcz10_3, hfz10_0, hfz10_1, hfz10_2, hfz10_3⟩ := bc4 BK222))
    have pi227 : (0 ≤ ((ji3) : Int)) = True := eq_true (of_decide_eq_true asm_)
    have qi227 : ((ji3) < (y224.length : Int)) = True := eq_true (of_decide_eq_true asm_)
    replace BK222 := aZ_ (blk_drew BK222.out)
    replace BK223 := aZ_ (blk_drew BK223.out)
    replace HB := aZ_ (below_drew1 HB.out)
    refine start_ (n := 9) (S := fun w' => True) (ds := []) #[false, false, false, false, false, false, false, false, false] (by kernel_rfl) rfl rfl trivial (fun hHeld => ?_); refine with_tabW chancellaw3_Uid.tab4 chancellaw3_Uid.bits4 (fun HT_ HW_ => ?_)
    generalize w8.drew = w11 at BK222 BK223 HB hHeld ⊢
    refine pS_ 1 12 (fa 9 2) HT_ ?_
    refine pS_ 4 15 (fa 9 18) HT_ ?_
    refine inv_at [0, 2, 3, 5, 6, 7, 8] (fun a0_ b a w' => ∃ (v225 : Value) (adz_v225 : Addr) (m2_ : Value), a = putSel a0_ b [(0, 11, v225), (2, 13, m2_), (3, 14, .string (rdOf ByteArray.empty y224 (ji3))), (5, 16, .slice A0_2 l0_2.length c0_2), (6, 17, .string t228), (7, 18, .agg #[.string (rdOf ByteArray.empty y224 (ji3)), .string t228])] ∧ (w'.heap[gb222]? = some (.cells #[.int .i64 a0_0, .int .i64 a0_1, .slice A0_2 l0_2.length c0_2, .slice A0_3 l0_3.length c0_3] 94 (0, 0))) ∧ (b 8 = false → w'.heap[gb223]? = some (.cells #[.string (⟨#[]⟩ : ByteArray), .string (⟨#[]⟩ : ByteArray)] 28 (0, 0))) ∧ (Below w.heap.size w w') ∧ (b 0 = true → Kd.R Kd.string 9 w' w.heap.size (fun _ => True) v225 y224) ∧ (b 0 = true → ∃ c_, (v225 : Value) = .slice (some adz_v225) y224.length c_) ∧ (b 8 = true → w'.heap[gb223]? = some (.cells #[.string (rdOf ByteArray.empty y224 (ji3)), .string t228] 28 (0, 0))) ∧ (b 2 = true → (m2_ : Value) = .pointer (some (adz_v225.add ((ji3)).toNat)))) HT_.out HW_.out (by kernel_rfl) (by kernel_rfl) ?_ ?_ ?_
    ·
     exact ⟨.bool false, ⟨0, 0, none⟩, .bool false, by simp only [putSel, Bool.false_eq_true, if_false], BK222.out, fun _ => BK223.out, HB.out, fun h_ => absurd h_ (by decide), fun h_ => absurd h_ (by decide), fun h_ => absurd h_ (by decide), fun h_ => absurd h_ (by decide)⟩
    ·
     skip
     clear BK222 BK223 HB
     refine steps_cons ?_ ?_
     ·
      rintro b a w' ⟨v225, adz_v225, m2_, ha, Q_BK222, Q_BK223, Q_HB, Q_HO226, Q_HA_HO226, Q_BK223_e8, Q_X2_⟩ hb_ hon hoff
      refine ⟨_, rfl, fun K hK => ?_⟩
      replace ha := aZ_ ha
      have BK222 := aZ_ Q_BK222
      have BK223 := aZ_ (Q_BK223 (hoff 8 (by kernel_rfl)))
      have HB := aZ_ Q_HB
      refine Kd.R_lit_step Kd.string _ 9 ?hg (N := 11) ?hd (xs := ([(⟨#[85, 115, 101, 114]⟩ : ByteArray), (⟨#[71, 114, 111, 117, 112]⟩ : ByteArray), (⟨#[68, 111, 99]⟩ : ByteArray), (⟨#[65, 99, 116, 105, 111, 110]⟩ : ByteArray), (⟨#[95, 120, 57]⟩ : ByteArray)] : List ByteArray)) (inner := [.string (⟨#[85, 115, 101, 114]⟩ : ByteArray), .string (⟨#[71, 114, 111, 117, 112]⟩ : ByteArray), .string (⟨#[68, 111, 99]⟩ : ByteArray), .string (⟨#[65, 99, 116, 105, 111, 110]⟩ : ByteArray), .string (⟨#[95, 120, 57]⟩ : ByteArray)]) (ok := fun _ => True) (okp := fun _ => True) ?hr ?hp (fun _ hk => hk) trivial (Below.refl _ _) (Nat.le_refl _) (by simp) ?_; (case hd => rfl); (case hg => rfl); (case hr => first | (go_simp; done) | (go_simp; rfl)); (case hp => exact (Reps.one (show Kd.M Kd.string _ _ _ (⟨#[85, 115, 101, 114]⟩ : ByteArray) [.string (⟨#[85, 115, 101, 114]⟩ : ByteArray)] from rfl) (Reps.one (show Kd.M Kd.string _ _ _ (⟨#[71, 114, 111, 117, 112]⟩ : ByteArray) [.string (⟨#[71, 114, 111, 117, 112]⟩ : ByteArray)] from rfl) (Reps.one (show Kd.M Kd.string _ _ _ (⟨#[68, 111, 99]⟩ : ByteArray) [.string (⟨#[68, 111, 99]⟩ : ByteArray)] from rfl) (Reps.one (show Kd.M Kd.string _ _ _ (⟨#[65, 99, 116, 105, 111, 110]⟩ : ByteArray) [.string (⟨#[65, 99, 116, 105, 111, 110]⟩ : ByteArray)] from rfl) (Reps.one (show Kd.M Kd.string _ _ _ (⟨#[95, 120, 57]⟩ : ByteArray) [.string (⟨#[95, 120, 57]⟩ : ByteArray)] from rfl) (Reps.none _ _)))))))
      intro v225 w12 ho13 hb hg_ hnew_
      clear hg_ hnew_
      (first | rw [← Ny224.out] at ho13 | (simp only [Int.reduceToNat] at ho13; rw [← Ny224.out] at ho13))
      have HO226 := aZ_ (Kd.R_lower ho13 (below_size (bl2 HB GE222 GE223)))
      replace BK222 := aZ_ (blk_below (g := gb222) (o := .cells #[.int .i64 a0_0, .int .i64 a0_1, .slice A0_2 l0_2.length c0_2, .slice A0_3 l0_3.length c0_3] 94 (0, 0)) (bk BK222) hb)
      replace BK223 := aZ_ (blk_below (g := gb223) (o := .cells #[.string (⟨#[]⟩ : ByteArray), .string (⟨#[]⟩ : ByteArray)] 28 (0, 0)) (bk BK223) hb)
      replace HB := aZ_ (below_step (bl2 HB GE222 GE223) hb)
      clear hb ho13
      obtain ⟨Ao14, co14, eo14⟩ := Kd.R_slice HO226.out
      subst eo14
      obtain ⟨ado14, fo14, _⟩ := Kd.at_string (Kd.R_reads' HO226.out).2.2 0 (by decide) (by rw [Ny224.out]; simp)
      cases fo14
      refine hK.out _ _ ⟨.slice (some ado14) y224.length co14, ado14, m2_, (by rw [ha.out]; exact putSel_upk 0 hb_ rfl rfl rfl), (bk BK222), fun _ => (bk BK223), (bl2 HB GE222 GE223), fun _ => (kR HO226), fun _ => ⟨_, rfl⟩, fun h0_ => absurd ((hoff 8 (by kernel_rfl)).symm.trans h0_) (by decide), fun h0_ => absurd ((hoff 2 (by kernel_rfl)).symm.trans h0_) (by decide)⟩
     refine steps_cons ?_ ?_
     ·
      rintro b a w' ⟨v225, adz_v225, m2_, ha, Q_BK222, Q_BK223, Q_HB, Q_HO226, Q_HA_HO226, Q_BK223_e8, Q_X2_⟩ hb_ hon hoff
      refine ⟨_, rfl, fun K hK => ?_⟩
      have e11 : a.tmps[11]? = some (v225) := by rw [ha]; exact putSel_on (e := (0, 11, v225)) 0 rfl rfl (hon 0 (by kernel_rfl)) rfl
      have e12 : a.tmps[12]? = some (.int .i64 ji3) := by rw [ha]; exact (putSel_off rfl).trans rfl
      replace ha := aZ_ ha
      have BK222 := aZ_ Q_BK222
      have BK223 := aZ_ (Q_BK223 (hoff 8 (by kernel_rfl)))
      have HB := aZ_ Q_HB
      have HO226 := aZ_ (Q_HO226 (hon 0 (by kernel_rfl)))
      have HA_HO226 := aZ_ (Q_HA_HO226 (hon 0 (by kernel_rfl)))
      obtain ⟨c_, hv_⟩ := HA_HO226.out
      rw [hv_] at e11
      refine value_ (w1 := w') (v := .pointer (some (adz_v225.add ((ji3)).toNat))) (by rfl) rfl ?_ ?_
      ·
       go_simp
       (try simp only [i64_w])
       try rfl
      refine hK.out _ _ ⟨v225, adz_v225, (.pointer (some (adz_v225.add ((ji3)).toNat))), (by rw [ha.out]; exact putSel_upk 1 hb_ rfl rfl rfl), Q_BK222, Q_BK223, Q_HB, Q_HO226, Q_HA_HO226, fun h0_ => absurd ((hoff 8 (by kernel_rfl)).symm.trans h0_) (by decide), fun _ => rfl⟩
     refine steps_cons ?_ ?_
     ·
      rintro b a w' ⟨v225, adz_v225, m2_, ha, Q_BK222, Q_BK223, Q_HB, Q_HO226, Q_HA_HO226, Q_BK223_e8, Q_X2_⟩ hb_ hon hoff
      refine ⟨_, rfl, fun K hK => ?_⟩
      have e13 : a.tmps[13]? = some (m2_) := by rw [ha]; exact putSel_on (e := (2, 13, m2_)) 1 rfl rfl (hon 2 (by kernel_rfl)) rfl
      rw [Q_X2_ (hon 2 (by kernel_rfl))] at e13
      replace ha := aZ_ ha
      have BK222 := aZ_ Q_BK222
      have BK223 := aZ_ (Q_BK223 (hoff 8 (by kernel_rfl)))
      have HB := aZ_ Q_HB
      have HO226 := aZ_ (Q_HO226 (hon 0 (by kernel_rfl)))
      have HA_HO226 := aZ_ (Q_HA_HO226 (hon 0 (by kernel_rfl)))
      obtain ⟨c_, hv_⟩ := HA_HO226.out
      have hF_ := HO226.out
      rw [hv_] at hF_
      obtain ⟨ad_, ea_, hx_⟩ := Kd.at_string (Kd.R_reads' hF_).2.2 (ji3) (of_eq_true pi227) (of_eq_true qi227)
      cases ea_
      refine value_ (w1 := w') (v := .string (rdOf ByteArray.empty y224 (ji3))) (by rfl) rfl ?_ ?_
      ·
       go_simp
       (try simp only [i64_w])
       try rfl
      refine hK.out _ _ ⟨v225, adz_v225, m2_, (by rw [ha.out]; exact putSel_upk 2 hb_ rfl rfl rfl), Q_BK222, Q_BK223, Q_HB, Q_HO226, Q_HA_HO226, fun h0_ => absurd ((hoff 8 (by kernel_rfl)).symm.trans h0_) (by decide), Q_X2_⟩
     refine steps_cons ?_ ?_
     ·
      rintro b a w' ⟨v225, adz_v225, m2_, ha, Q_BK222, Q_BK223, Q_HB, Q_HO226, Q_HA_HO226, Q_BK223_e8, Q_X2_⟩ hb_ hon hoff
      refine ⟨_, rfl, fun K hK => ?_⟩
      have e15 : a.tmps[15]? = some (.pointer (some ⟨gb222, 2, none⟩)) := by rw [ha]; exact (putSel_off rfl).trans rfl
      replace ha := aZ_ ha
      have BK222 := aZ_ Q_BK222
      have BK223 := aZ_ (Q_BK223 (hoff 8 (by kernel_rfl)))
      have HB := aZ_ Q_HB
      have hc0_ : w'.cell? ⟨gb222, 0, none⟩ = some (.int .i64 a0_0) := (blk_cell BK222.out 0).trans rfl
      have hc1_ : w'.cell? ⟨gb222, 1, none⟩ = some (.int .i64 a0_1) := (blk_cell BK222.out 1).trans rfl
      have hc2_ : w'.cell? ⟨gb222, 2, none⟩ = some (.slice A0_2 l0_2.length c0_2) := (blk_cell BK222.out 2).trans rfl
      have hc3_ : w'.cell? ⟨gb222, 3, none⟩ = some (.slice A0_3 l0_3.length c0_3) := (blk_cell BK222.out 3).trans rfl
      refine value_ (w1 := w') (v := .slice A0_2 l0_2.length c0_2) (by rfl) rfl ?_ ?_
      ·
       go_simp
       (try simp only [i64_w])
       try rfl
      refine hK.out _ _ ⟨v225, adz_v225, m2_, (by rw [ha.out]; exact putSel_upk 3 hb_ rfl rfl rfl), Q_BK222, Q_BK223, Q_HB, Q_HO226, Q_HA_HO226, fun h0_ => absurd ((hoff 8 (by kernel_rfl)).symm.trans h0_) (by decide), Q_X2_⟩
     refine steps_cons ?_ ?_
     ·
      rintro b a w' ⟨v225, adz_v225, m2_, ha, Q_BK222, Q_BK223, Q_HB, Q_HO226, Q_HA_HO226, Q_BK223_e8, Q_X2_⟩ hb_ hon hoff
      refine ⟨_, rfl, fun K hK => ?_⟩
      have e16 : a.tmps[16]? = some (.slice A0_2 l0_2.length c0_2) := by rw [ha]; exact putSel_on (e := (5, 16, .slice A0_2 l0_2.length c0_2)) 3 rfl rfl (hon 5 (by kernel_rfl)) rfl
      replace ha := aZ_ ha
      have BK222 := aZ_ Q_BK222
      have BK223 := aZ_ (Q_BK223 (hoff 8 (by kernel_rfl)))
      have HB := aZ_ Q_HB
      refine goes_ Tryz.func59 (by kernel_rfl) rfl #[.slice A0_2 l0_2.length c0_2] (by rfl) rfl rfl (by first | (simp only [List.map_toArray, List.map_cons, List.map_nil, Act.eval, Array.getD_eq_getD_getElem?, Option.getD_some, e16]; done) | (simp only [List.map_toArray, List.map_cons, List.map_nil, Act.eval, Array.getD_eq_getD_getElem?, Option.getD_some, e16]; rfl)) ?_
      with_reducible refine (chancellaw3_id.calls k _ _ l0_2 t228 _ ?side1 ?side2 A6.out).mono ?_
      (case side1 => exact kC (Kd.C_below HR0_2.out HB.out))
      (case side2 => exact HC0_2.out)
      rintro e w12 ⟨rfl, hb⟩
      refine ⟨_, rfl, ?_⟩
      have n0_ := aZ_ (blk_below (g := gb222) (o := .cells #[.int .i64 a0_0, .int .i64 a0_1, .slice A0_2 l0_2.length c0_2, .slice A0_3 l0_3.length c0_3] 94 (0, 0)) (bk BK222) hb)
      have n1_ := aZ_ (blk_below (g := gb223) (o := .cells #[.string (⟨#[]⟩ : ByteArray), .string (⟨#[]⟩ : ByteArray)] 28 (0, 0)) (bk BK223) hb)
      have n2_ := aZ_ (below_step (bl2 HB GE222 GE223) hb)
      have z_HO226 := fun (h0_ : b 0 = true) => (show Kd.R Kd.string 9 w12 w.heap.size (fun _ => True) v225 y224 from by first | exact (Kd.R_below (by (with_reducible repeat (first | apply Kd.R_alloc | apply Kd.R_drewN | apply Kd.R_drew)); exact (Q_HO226 h0_)) hb) | exact Kd.R_mono (Kd.R_below (by (with_reducible repeat (first | apply Kd.R_alloc | apply Kd.R_drewN | apply Kd.R_drew)); exact (Q_HO226 h0_)) hb) (fun _ h_ => by first | trivial | exact h_ | exact h_.1))
      clear BK222
      clear BK223
      clear HB
      have BK222 := n0_
      have BK223 := n1_
      have HB := n2_
      clear n0_ n1_ n2_
      (try clear hb)
      (try clear hb2)
      (try clear hk)
      (try clear hi)
      refine hK.out _ _ ⟨v225, adz_v225, m2_, (by rw [ha.out]; exact putSel_upk 4 hb_ rfl rfl rfl), (bk BK222), fun _ => (bk BK223), (bl2 HB GE222 GE223), z_HO226, Q_HA_HO226, fun h0_ => absurd ((hoff 8 (by kernel_rfl)).symm.trans h0_) (by decide), Q_X2_⟩
     refine steps_cons ?_ ?_
     ·
      rintro b a w' ⟨v225, adz_v225, m2_, ha, Q_BK222, Q_BK223, Q_HB, Q_HO226, Q_HA_HO226, Q_BK223_e8, Q_X2_⟩ hb_ hon hoff
      refine ⟨_, rfl, fun K hK => ?_⟩
      have e14 : a.tmps[14]? = some (.string (rdOf ByteArray.empty y224 (ji3))) := by rw [ha]; exact putSel_on (e := (3, 14, .string (rdOf ByteArray.empty y224 (ji3)))) 2 rfl rfl (hon 3 (by kernel_rfl)) rfl
      have e17 : a.tmps[17]? = some (.string t228) := by rw [ha]; exact putSel_on (e := (6, 17, .string t228)) 4 rfl rfl (hon 6 (by kernel_rfl)) rfl
      replace ha := aZ_ ha
      have BK222 := aZ_ Q_BK222
      have BK223 := aZ_ (Q_BK223 (hoff 8 (by kernel_rfl)))
      have HB := aZ_ Q_HB
      have HO226 := aZ_ (Q_HO226 (hon 0 (by kernel_rfl)))
      have HA_HO226 := aZ_ (Q_HA_HO226 (hon 0 (by kernel_rfl)))
      refine value_ (w1 := w') (v := .agg #[.string (rdOf ByteArray.empty y224 (ji3)), .string t228]) (by rfl) rfl ?_ ?_
      ·
       go_simp
       (try simp only [i64_w])
       try rfl
      refine hK.out _ _ ⟨v225, adz_v225, m2_, (by rw [ha.out]; exact putSel_upk 5 hb_ rfl rfl rfl), Q_BK222, Q_BK223, Q_HB, Q_HO226, Q_HA_HO226, fun h0_ => absurd ((hoff 8 (by kernel_rfl)).symm.trans h0_) (by decide), Q_X2_⟩
     refine steps_cons ?_ ?_
     ·
      rintro b a w' ⟨v225, adz_v225, m2_, ha, Q_BK222, Q_BK223, Q_HB, Q_HO226, Q_HA_HO226, Q_BK223_e8, Q_X2_⟩ hb_ hon hoff
      refine ⟨_, rfl, fun K hK => ?_⟩
      have e2 : a.tmps[2]? = some (.pointer (some ⟨gb223, 0, none⟩)) := by rw [ha]; exact (putSel_off rfl).trans rfl
      have e18 : a.tmps[18]? = some (.agg #[.string (rdOf ByteArray.empty y224 (ji3)), .string t228]) := by rw [ha]; exact putSel_on (e := (7, 18, .agg #[.string (rdOf ByteArray.empty y224 (ji3)), .string t228])) 5 rfl rfl (hon 7 (by kernel_rfl)) rfl
      replace ha := aZ_ ha
      have BK222 := aZ_ Q_BK222
      have BK223 := aZ_ (Q_BK223 hb_)
      have HB := aZ_ Q_HB
      have HO226 := aZ_ (Q_HO226 (hon 0 (by kernel_rfl)))
      have HA_HO226 := aZ_ (Q_HA_HO226 (hon 0 (by kernel_rfl)))
      obtain ⟨co17, eo17⟩ := HA_HO226.out
      clear HA_HO226
      subst eo17
      have hs18 : w'.cell? ⟨gb223, 0, none⟩ = some (.string (⟨#[]⟩ : ByteArray)) := (blk_cell BK223.out 0).trans rfl
      have hfs18 := blk_frozen BK223.out 0
      have hns18_0 := NB222_223.out
      have hms18_0 := NB223_222.out
      have hs19 : w'.cell? ⟨gb223, 1, none⟩ = some (.string (⟨#[]⟩ : ByteArray)) := (blk_cell BK223.out 1).trans rfl
      have hfs19 := blk_frozen BK223.out 1
      have hns19_0 := NB222_223.out
      have hms19_0 := NB223_222.out
      refine skip_ (w1 := ?_) (by rfl) rfl ?_ ?_
      rotate_left
      ·
       go_simp
       rfl
      refine hK.out _ _ ⟨.slice (some adz_v225) y224.length co17, adz_v225, m2_, (by rw [ha.out]; exact putSel_none (v := undef) rfl), (by (with_reducible repeat (first | refine blk_drewN ?_ _ | refine blk_drew ?_ | refine blk_alloc ?_ _)); refine blk_far ?_ NB222_223.out _; (with_reducible repeat (first | refine blk_drewN ?_ _ | refine blk_drew ?_ | refine blk_alloc ?_ _)); refine blk_far ?_ NB222_223.out _; (with_reducible repeat (first | refine blk_drewN ?_ _ | refine blk_drew ?_ | refine blk_alloc ?_ _)); exact BK222.out), fun h0_ => absurd ((up_self b 8).symm.trans h0_) (by decide), (bl2 HB GE222 GE223), fun _ => (by (with_reducible repeat (first | apply Kd.R_alloc | apply Kd.R_drewN | apply Kd.R_drew)); exact Kd.R_mono (Kd.R_far (p := ⟨gb223, 1, none⟩) (Kd.R_far (p := ⟨gb223, 0, none⟩) (Kd.R_types HO226.out BK223.out (by decide)) (fun _ hk => hk.2) (.string (rdOf ByteArray.empty y224 (ji3)))) (fun _ hk => hk.2) (.string t228)) (fun _ hk => trivial)), fun _ => ⟨_, rfl⟩, fun _ => (by (with_reducible repeat (first | refine blk_drewN ?_ _ | refine blk_drew ?_ | refine blk_alloc ?_ _)); refine blk_put (cs := #[.string (rdOf ByteArray.empty y224 (ji3)), .string (⟨#[]⟩ : ByteArray)]) ?_ 1 _ rfl; (with_reducible repeat (first | refine blk_drewN ?_ _ | refine blk_drew ?_ | refine blk_alloc ?_ _)); refine blk_put (cs := #[.string (⟨#[]⟩ : ByteArray), .string (⟨#[]⟩ : ByteArray)]) ?_ 0 _ rfl; (with_reducible repeat (first | refine blk_drewN ?_ _ | refine blk_drew ?_ | refine blk_alloc ?_ _)); exact BK223.out), Q_X2_⟩
     exact steps_nil
    rintro b a w18 hall ⟨v225, adz_v225, m2_, ha, Q_BK222, Q_BK223, Q_HB, Q_HO226, Q_HA_HO226, Q_BK223_e8, Q_X2_⟩
    clear BK222 BK223 HB
    have hb0_ := hall 0 (by kernel_rfl)
    have hb2_ := hall 2 (by kernel_rfl)
    have hb3_ := hall 3 (by kernel_rfl)
    have hb5_ := hall 5 (by kernel_rfl)
    have hb6_ := hall 6 (by kernel_rfl)
    have hb7_ := hall 7 (by kernel_rfl)
    have hb8_ := hall 8 (by kernel_rfl)
    subst ha
    obtain rfl := Q_X2_ hb2_
    simp only [putSel, hb0_, hb2_, hb3_, hb5_, hb6_, hb7_, hb8_, if_true, Act.put, List.setIfInBounds_toArray, List.set_cons_zero, List.set_cons_succ]
    have BK222 := aZ_ Q_BK222
    clear Q_BK222
    clear Q_BK223
    have HB := aZ_ Q_HB
    clear Q_HB
    have HO226 := aZ_ (Q_HO226 hb0_)
    clear Q_HO226
    have HA_HO226 := aZ_ (Q_HA_HO226 hb0_)
    clear Q_HA_HO226
    have BK223 := aZ_ (Q_BK223_e8 hb8_)
    clear Q_BK223_e8
    clear hall hb0_ hb2_ hb3_ hb5_ hb6_ hb7_ hb8_
    obtain ⟨co19, eo19⟩ := HA_HO226.out
    clear HA_HO226
    subst eo19
    try go_wp2
    refine bodyPost_ret (results_cell_row rfl _ _ gb223 28 #[.string (rdOf ByteArray.empty y224 (ji3)), .string t228] (0, 0) _ rfl (bk BK223) Tryz.underlying28 rfl (by kernel_rfl)) rfl ?_
    exact ⟨by first | rfl | (simp [errW_none, errW_some] <;> rfl) | (simp only [← hji3]; first | rfl | (simp [errW_none, errW_some] <;> rfl)) | (simp [*, errW_none, errW_some] <;> rfl), bl2 HB GE222 GE223⟩
   ·
    rw [if_neg c5] at H
    exact absurd H (by simp)
  ·
   rw [if_neg c4] at H
   exact absurd H (by simp)
 ·
  rw [if_neg c2] at H
  have c2b0 : decide ((Int.tmod a0_1 5) < 0) = false := decide_eq_false c2
  clear c2
  obtain ⟨y229, hy229⟩ : ∃ y_ : List ByteArray, y_ = (([(⟨#[85, 115, 101, 114]⟩ : ByteArray), (⟨#[71, 114, 111, 117, 112]⟩ : ByteArray), (⟨#[68, 111, 99]⟩ : ByteArray), (⟨#[65, 99, 116, 105, 111, 110]⟩ : ByteArray), (⟨#[95, 120, 57]⟩ : ByteArray)] : List ByteArray)) := ⟨_, rfl⟩
  replace H : (if 0 ≤ (Int.tmod a0_1 5) then (if (Int.tmod a0_1 5) < (y229.length : Int) then ((chancellaw3_id.f k l0_2).bind fun t233 => (some (rdOf ByteArray.empty y229 (Int.tmod a0_1 5), t233))) else (none)) else (none)) = some (r1, r2) := by first | (rw [hy229]; with_reducible exact H) | (have H2_ := (Option.bind_some _ _).symm.trans H; rw [hy229]; with_reducible exact H2_) | (have H2_ := (Option.bind_some _ _).symm.trans H; with_reducible exact H2_) | with_reducible exact H | (rw [hy229]; exact H) | exact H
  have Ny229 := aZ_ hy229
  clear hy229
  obtain ⟨ji20, hji20⟩ : ∃ j_ : Int, (Int.tmod a0_1 5) = j_ := ⟨_, rfl⟩
  replace H : (if 0 ≤ (ji20) then (if (ji20) < (y229.length : Int) then ((chancellaw3_id.f k l0_2).bind fun t233 => (some (rdOf ByteArray.empty y229 (ji20), t233))) else (none)) else (none)) = some (r1, r2) := by first | (rw [hji20] at H; exact H) | (simp only [hji20] at H ⊢; exact H)
  (try rw [hji20] at c2b0)
  by_cases c21 : 0 ≤ (ji20)
  ·
   rw [if_pos c21] at H
   have c21b0 : decide (0 ≤ (ji20)) = true := decide_eq_true c21
   clear c21
   by_cases c22 : (ji20) < (y229.length : Int)
   ·
    rw [if_pos c22] at H
    have c22b0 : decide ((ji20) < (y229.length : Int)) = true := decide_eq_true c22
    clear c22
    replace H := Option.bind_eq_some_iff.mp H
    obtain ⟨t233, A230, H⟩ := H
    replace H : (some (rdOf ByteArray.empty y229 (ji20), t233)) = some (r1, r2) := H
    have A23 := aZ_ A230
    clear A230
    simp only [Option.some.injEq, Prod.mk.injEq] at H
    obtain ⟨rfl, rfl⟩ := H
    go_enter Tryz.func60, Tryz.ntmps60
    try go_wp2_with (first | ((with_reducible refine gate_dst (N := 1) rfl ?_); refine bxE 1 #[.int .i64 a0_0, .int .i64 a0_1, .slice A0_2 l0_2.length c0_2, .slice A0_3 l0_3.length c0_3] 94 ?_; intro gb222 hg w24 hbox hb; have BK222 := aZ_ (hbox); have GW222 := aZ_ ((by rw [hg]; exact (below_size (bl HB)) : w.heap.size ≤ gb222)); have GE222 := aZ_ ((by rw [hg]; exact (below_size (bl HB)) : w.heap.size ≤ gb222)); replace HB := aZ_ (below_step (bl HB) hb); clear hb hbox hg) | ((with_reducible refine gate_dst (N := 2) rfl ?_); refine bxE 2 #[.string (⟨#[]⟩ : ByteArray), .string (⟨#[]⟩ : ByteArray)] 28 ?_; intro gb223 hg w25 hbox hb; have BK223 := aZ_ (hbox); have GW223 := aZ_ ((by rw [hg]; exact (below_size (bl1 HB GE222)) : w.heap.size ≤ gb223)); have GE223 := aZ_ ((by rw [hg]; exact (below_size (bl1 HB GE222)) : w.heap.size ≤ gb223)); replace HB := aZ_ (below_step (bl1 HB GE222) hb); have NB222_223 := aZ_ ((by rw [hg]; exact Nat.ne_of_lt (blk_lt (g := gb222) (o := .cells #[.int .i64 a0_0, .int .i64 a0_1, .slice A0_2 l0_2.length c0_2, .slice A0_3 l0_3.length c0_3] 94 (0, 0)) (bk BK222)) : gb222 ≠ gb223)); have NB223_222 := aZ_ ((by rw [hg]; exact Nat.ne_of_gt (blk_lt (g := gb222) (o := .cells #[.int .i64 a0_0, .int .i64 a0_1, .slice A0_2 l0_2.length c0_2, .slice A0_3 l0_3.length c0_3] 94 (0, 0)) (bk BK222)) : gb223 ≠ gb222)); replace BK222 := aZ_ (blk_below (g := gb222) (o := .cells #[.int .i64 a0_0, .int .i64 a0_1, .slice A0_2 l0_2.length c0_2, .slice A0_3 l0_3.length c0_3] 94 (0, 0)) (bk BK222) hb); clear hb hbox hg; have hnb26 := NB222_223.out; have hnc26 := NB223_222.out; obtain ⟨hcz27_0, hcz27_1, hcz27_2, hcz27_3, hfz27_0, hfz27_1, hfz27_2, hfz27_3⟩ := bc4 BK222))
    have pi232 : (0 ≤ ((ji20) : Int)) = True := eq_true (of_decide_eq_true asm_)
    have qi232 : ((ji20) < (y229.length : Int)) = True := eq_true (of_decide_eq_true asm_)
    replace BK222 := aZ_ (blk_drew BK222.out)
    replace BK223 := aZ_ (blk_drew BK223.out)
    replace HB := aZ_ (below_drew1 HB.out)
    refine start_ (n := 9) (S := fun w' => True) (ds := []) #[false, false, false, false, false, false, false, false, false] (by kernel_rfl) rfl rfl trivial (fun hHeld => ?_); refine with_tabW chancellaw3_Uid.tab4 chancellaw3_Uid.bits4 (fun HT_ HW_ => ?_)
    generalize w25.drew = w28 at BK222 BK223 HB hHeld ⊢
    refine pS_ 1 12 (fa 9 2) HT_ ?_
    refine pS_ 4 15 (fa 9 18) HT_ ?_
    refine inv_at [0, 2, 3, 5, 6, 7, 8] (fun a0_ b a w' => ∃ (v230 : Value) (adz_v230 : Addr) (m2_ : Value), a = putSel a0_ b [(0, 11, v230), (2, 13, m2_), (3, 14, .string (rdOf ByteArray.empty y229 (ji20))), (5, 16, .slice A0_2 l0_2.length c0_2), (6, 17, .string t233), (7, 18, .agg #[.string (rdOf ByteArray.empty y229 (ji20)), .string t233])] ∧ (w'.heap[gb222]? = some (.cells #[.int .i64 a0_0, .int .i64 a0_1, .slice A0_2 l0_2.length c0_2, .slice A0_3 l0_3.length c0_3] 94 (0, 0))) ∧ (b 8 = false → w'.heap[gb223]? = some (.cells #[.string (⟨#[]⟩ : ByteArray), .string (⟨#[]⟩ : ByteArray)] 28 (0, 0))) ∧ (Below w.heap.size w w') ∧ (b 0 = true → Kd.R Kd.string 9 w' w.heap.size (fun _ => True) v230 y229) ∧ (b 0 = true → ∃ c_, (v230 : Value) = .slice (some adz_v230) y229.length c_) ∧ (b 8 = true → w'.heap[gb223]? = some (.cells #[.string (rdOf ByteArray.empty y229 (ji20)), .string t233] 28 (0, 0))) ∧ (b 2 = true → (m2_ : Value) = .pointer (some (adz_v230.add ((ji20)).toNat)))) HT_.out HW_.out (by kernel_rfl) (by kernel_rfl) ?_ ?_ ?_
    ·
     exact ⟨.bool false, ⟨0, 0, none⟩, .bool false, by simp only [putSel, Bool.false_eq_true, if_false], BK222.out, fun _ => BK223.out, HB.out, fun h_ => absurd h_ (by decide), fun h_ => absurd h_ (by decide), fun h_ => absurd h_ (by decide), fun h_ => absurd h_ (by decide)⟩
    ·
     skip
     clear BK222 BK223 HB
     refine steps_cons ?_ ?_
     ·
      rintro b a w' ⟨v230, adz_v230, m2_, ha, Q_BK222, Q_BK223, Q_HB, Q_HO231, Q_HA_HO231, Q_BK223_e8, Q_X2_⟩ hb_ hon hoff
      refine ⟨_, rfl, fun K hK => ?_⟩
      replace ha := aZ_ ha
      have BK222 := aZ_ Q_BK222
      have BK223 := aZ_ (Q_BK223 (hoff 8 (by kernel_rfl)))
      have HB := aZ_ Q_HB
      refine Kd.R_lit_step Kd.string _ 9 ?hg (N := 11) ?hd (xs := ([(⟨#[85, 115, 101, 114]⟩ : ByteArray), (⟨#[71, 114, 111, 117, 112]⟩ : ByteArray), (⟨#[68, 111, 99]⟩ : ByteArray), (⟨#[65, 99, 116, 105, 111, 110]⟩ : ByteArray), (⟨#[95, 120, 57]⟩ : ByteArray)] : List ByteArray)) (inner := [.string (⟨#[85, 115, 101, 114]⟩ : ByteArray), .string (⟨#[71, 114, 111, 117, 112]⟩ : ByteArray), .string (⟨#[68, 111, 99]⟩ : ByteArray), .string (⟨#[65, 99, 116, 105, 111, 110]⟩ : ByteArray), .string (⟨#[95, 120, 57]⟩ : ByteArray)]) (ok := fun _ => True) (okp := fun _ => True) ?hr ?hp (fun _ hk => hk) trivial (Below.refl _ _) (Nat.le_refl _) (by simp) ?_; (case hd => rfl); (case hg => rfl); (case hr => first | (go_simp; done) | (go_simp; rfl)); (case hp => exact (Reps.one (show Kd.M Kd.string _ _ _ (⟨#[85, 115, 101, 114]⟩ : ByteArray) [.string (⟨#[85, 115, 101, 114]⟩ : ByteArray)] from rfl) (Reps.one (show Kd.M Kd.string _ _ _ (⟨#[71, 114, 111, 117, 112]⟩ : ByteArray) [.string (⟨#[71, 114, 111, 117, 112]⟩ : ByteArray)] from rfl) (Reps.one (show Kd.M Kd.string _ _ _ (⟨#[68, 111, 99]⟩ : ByteArray) [.string (⟨#[68, 111, 99]⟩ : ByteArray)] from rfl) (Reps.one (show Kd.M Kd.string _ _ _ (⟨#[65, 99, 116, 105, 111, 110]⟩ : ByteArray) [.string (⟨#[65, 99, 116, 105, 111, 110]⟩ : ByteArray)] from rfl) (Reps.one (show Kd.M Kd.string _ _ _ (⟨#[95, 120, 57]⟩ : ByteArray) [.string (⟨#[95, 120, 57]⟩ : ByteArray)] from rfl) (Reps.none _ _)))))))
      intro v230 w29 ho30 hb hg_ hnew_
      clear hg_ hnew_
      (first | rw [← Ny229.out] at ho30 | (simp only [Int.reduceToNat] at ho30; rw [← Ny229.out] at ho30))
      have HO231 := aZ_ (Kd.R_lower ho30 (below_size (bl2 HB GE222 GE223)))
      replace BK222 := aZ_ (blk_below (g := gb222) (o := .cells #[.int .i64 a0_0, .int .i64 a0_1, .slice A0_2 l0_2.length c0_2, .slice A0_3 l0_3.length c0_3] 94 (0, 0)) (bk BK222) hb)
      replace BK223 := aZ_ (blk_below (g := gb223) (o := .cells #[.string (⟨#[]⟩ : ByteArray), .string (⟨#[]⟩ : ByteArray)] 28 (0, 0)) (bk BK223) hb)
      replace HB := aZ_ (below_step (bl2 HB GE222 GE223) hb)
      clear hb ho30
      obtain ⟨Ao31, co31, eo31⟩ := Kd.R_slice HO231.out
      subst eo31
      obtain ⟨ado31, fo31, _⟩ := Kd.at_string (Kd.R_reads' HO231.out).2.2 0 (by decide) (by rw [Ny229.out]; simp)
      cases fo31
      refine hK.out _ _ ⟨.slice (some ado31) y229.length co31, ado31, m2_, (by rw [ha.out]; exact putSel_upk 0 hb_ rfl rfl rfl), (bk BK222), fun _ => (bk BK223), (bl2 HB GE222 GE223), fun _ => (kR HO231), fun _ => ⟨_, rfl⟩, fun h0_ => absurd ((hoff 8 (by kernel_rfl)).symm.trans h0_) (by decide), fun h0_ => absurd ((hoff 2 (by kernel_rfl)).symm.trans h0_) (by decide)⟩
     refine steps_cons ?_ ?_
     ·
      rintro b a w' ⟨v230, adz_v230, m2_, ha, Q_BK222, Q_BK223, Q_HB, Q_HO231, Q_HA_HO231, Q_BK223_e8, Q_X2_⟩ hb_ hon hoff
      refine ⟨_, rfl, fun K hK => ?_⟩
      have e11 : a.tmps[11]? = some (v230) := by rw [ha]; exact putSel_on (e := (0, 11, v230)) 0 rfl rfl (hon 0 (by kernel_rfl)) rfl
      have e12 : a.tmps[12]? = some (.int .i64 ji20) := by rw [ha]; exact (putSel_off rfl).trans rfl
      replace ha := aZ_ ha
      have BK222 := aZ_ Q_BK222
      have BK223 := aZ_ (Q_BK223 (hoff 8 (by kernel_rfl)))
      have HB := aZ_ Q_HB
      have HO231 := aZ_ (Q_HO231 (hon 0 (by kernel_rfl)))
      have HA_HO231 := aZ_ (Q_HA_HO231 (hon 0 (by kernel_rfl)))
      obtain ⟨c_, hv_⟩ := HA_HO231.out
      rw [hv_] at e11
      refine value_ (w1 := w') (v := .pointer (some (adz_v230.add ((ji20)).toNat))) (by rfl) rfl ?_ ?_
      ·
       go_simp
       (try simp only [i64_w])
       try rfl
      refine hK.out _ _ ⟨v230, adz_v230, (.pointer (some (adz_v230.add ((ji20)).toNat))), (by rw [ha.out]; exact putSel_upk 1 hb_ rfl rfl rfl), Q_BK222, Q_BK223, Q_HB, Q_HO231, Q_HA_HO231, fun h0_ => absurd ((hoff 8 (by kernel_rfl)).symm.trans h0_) (by decide), fun _ => rfl⟩
     refine steps_cons ?_ ?_
     ·
      rintro b a w' ⟨v230, adz_v230, m2_, ha, Q_BK222, Q_BK223, Q_HB, Q_HO231, Q_HA_HO231, Q_BK223_e8, Q_X2_⟩ hb_ hon hoff
      refine ⟨_, rfl, fun K hK => ?_⟩
      have e13 : a.tmps[13]? = some (m2_) := by rw [ha]; exact putSel_on (e := (2, 13, m2_)) 1 rfl rfl (hon 2 (by kernel_rfl)) rfl
      rw [Q_X2_ (hon 2 (by kernel_rfl))] at e13
      replace ha := aZ_ ha
      have BK222 := aZ_ Q_BK222
      have BK223 := aZ_ (Q_BK223 (hoff 8 (by kernel_rfl)))
      have HB := aZ_ Q_HB
      have HO231 := aZ_ (Q_HO231 (hon 0 (by kernel_rfl)))
      have HA_HO231 := aZ_ (Q_HA_HO231 (hon 0 (by kernel_rfl)))
      obtain ⟨c_, hv_⟩ := HA_HO231.out
      have hF_ := HO231.out
      rw [hv_] at hF_
      obtain ⟨ad_, ea_, hx_⟩ := Kd.at_string (Kd.R_reads' hF_).2.2 (ji20) (of_eq_true pi232) (of_eq_true qi232)
      cases ea_
      refine value_ (w1 := w') (v := .string (rdOf ByteArray.empty y229 (ji20))) (by rfl) rfl ?_ ?_
      ·
       go_simp
       (try simp only [i64_w])
       try rfl
      refine hK.out _ _ ⟨v230, adz_v230, m2_, (by rw [ha.out]; exact putSel_upk 2 hb_ rfl rfl rfl), Q_BK222, Q_BK223, Q_HB, Q_HO231, Q_HA_HO231, fun h0_ => absurd ((hoff 8 (by kernel_rfl)).symm.trans h0_) (by decide), Q_X2_⟩
     refine steps_cons ?_ ?_
     ·
      rintro b a w' ⟨v230, adz_v230, m2_, ha, Q_BK222, Q_BK223, Q_HB, Q_HO231, Q_HA_HO231, Q_BK223_e8, Q_X2_⟩ hb_ hon hoff
      refine ⟨_, rfl, fun K hK => ?_⟩
      have e15 : a.tmps[15]? = some (.pointer (some ⟨gb222, 2, none⟩)) := by rw [ha]; exact (putSel_off rfl).trans rfl
      replace ha := aZ_ ha
      have BK222 := aZ_ Q_BK222
      have BK223 := aZ_ (Q_BK223 (hoff 8 (by kernel_rfl)))
      have HB := aZ_ Q_HB
      have hc0_ : w'.cell? ⟨gb222, 0, none⟩ = some (.int .i64 a0_0) := (blk_cell BK222.out 0).trans rfl
      have hc1_ : w'.cell? ⟨gb222, 1, none⟩ = some (.int .i64 a0_1) := (blk_cell BK222.out 1).trans rfl
      have hc2_ : w'.cell? ⟨gb222, 2, none⟩ = some (.slice A0_2 l0_2.length c0_2) := (blk_cell BK222.out 2).trans rfl
      have hc3_ : w'.cell? ⟨gb222, 3, none⟩ = some (.slice A0_3 l0_3.length c0_3) := (blk_cell BK222.out 3).trans rfl
      refine value_ (w1 := w') (v := .slice A0_2 l0_2.length c0_2) (by rfl) rfl ?_ ?_
      ·
       go_simp
       (try simp only [i64_w])
       try rfl
      refine hK.out _ _ ⟨v230, adz_v230, m2_, (by rw [ha.out]; exact putSel_upk 3 hb_ rfl rfl rfl), Q_BK222, Q_BK223, Q_HB, Q_HO231, Q_HA_HO231, fun h0_ => absurd ((hoff 8 (by kernel_rfl)).symm.trans h0_) (by decide), Q_X2_⟩
     refine steps_cons ?_ ?_
     ·
      rintro b a w' ⟨v230, adz_v230, m2_, ha, Q_BK222, Q_BK223, Q_HB, Q_HO231, Q_HA_HO231, Q_BK223_e8, Q_X2_⟩ hb_ hon hoff
      refine ⟨_, rfl, fun K hK => ?_⟩
      have e16 : a.tmps[16]? = some (.slice A0_2 l0_2.length c0_2) := by rw [ha]; exact putSel_on (e := (5, 16, .slice A0_2 l0_2.length c0_2)) 3 rfl rfl (hon 5 (by kernel_rfl)) rfl
      replace ha := aZ_ ha
      have BK222 := aZ_ Q_BK222
      have BK223 := aZ_ (Q_BK223 (hoff 8 (by kernel_rfl)))
      have HB := aZ_ Q_HB
      refine goes_ Tryz.func59 (by kernel_rfl) rfl #[.slice A0_2 l0_2.length c0_2] (by rfl) rfl rfl (by first | (simp only [List.map_toArray, List.map_cons, List.map_nil, Act.eval, Array.getD_eq_getD_getElem?, Option.getD_some, e16]; done) | (simp only [List.map_toArray, List.map_cons, List.map_nil, Act.eval, Array.getD_eq_getD_getElem?, Option.getD_some, e16]; rfl)) ?_
      with_reducible refine (chancellaw3_id.calls k _ _ l0_2 t233 _ ?side1 ?side2 A23.out).mono ?_
      (case side1 => exact kC (Kd.C_below HR0_2.out HB.out))
      (case side2 => exact HC0_2.out)
      rintro e w29 ⟨rfl, hb⟩
      refine ⟨_, rfl, ?_⟩
      have n0_ := aZ_ (blk_below (g := gb222) (o := .cells #[.int .i64 a0_0, .int .i64 a0_1, .slice A0_2 l0_2.length c0_2, .slice A0_3 l0_3.length c0_3] 94 (0, 0)) (bk BK222) hb)
      have n1_ := aZ_ (blk_below (g := gb223) (o := .cells #[.string (⟨#[]⟩ : ByteArray), .string (⟨#[]⟩ : ByteArray)] 28 (0, 0)) (bk BK223) hb)
      have n2_ := aZ_ (below_step (bl2 HB GE222 GE223) hb)
      have z_HO231 := fun (h0_ : b 0 = true) => (show Kd.R Kd.string 9 w29 w.heap.size (fun _ => True) v230 y229 from by first | exact (Kd.R_below (by (with_reducible repeat (first | apply Kd.R_alloc | apply Kd.R_drewN | apply Kd.R_drew)); exact (Q_HO231 h0_)) hb) | exact Kd.R_mono (Kd.R_below (by (with_reducible repeat (first | apply Kd.R_alloc | apply Kd.R_drewN | apply Kd.R_drew)); exact (Q_HO231 h0_)) hb) (fun _ h_ => by first | trivial | exact h_ | exact h_.1))
      clear BK222
      clear BK223
      clear HB
      have BK222 := n0_
      have BK223 := n1_
      have HB := n2_
      clear n0_ n1_ n2_
      (try clear hb)
      (try clear hb2)
      (try clear hk)
      (try clear hi)
      refine hK.out _ _ ⟨v230, adz_v230, m2_, (by rw [ha.out]; exact putSel_upk 4 hb_ rfl rfl rfl), (bk BK222), fun _ => (bk BK223), (bl2 HB GE222 GE223), z_HO231, Q_HA_HO231, fun h0_ => absurd ((hoff 8 (by kernel_rfl)).symm.trans h0_) (by decide), Q_X2_⟩
     refine steps_cons ?_ ?_
     ·
      rintro b a w' ⟨v230, adz_v230, m2_, ha, Q_BK222, Q_BK223, Q_HB, Q_HO231, Q_HA_HO231, Q_BK223_e8, Q_X2_⟩ hb_ hon hoff
      refine ⟨_, rfl, fun K hK => ?_⟩
      have e14 : a.tmps[14]? = some (.string (rdOf ByteArray.empty y229 (ji20))) := by rw [ha]; exact putSel_on (e := (3, 14, .string (rdOf ByteArray.empty y229 (ji20)))) 2 rfl rfl (hon 3 (by kernel_rfl)) rfl
      have e17 : a.tmps[17]? = some (.string t233) := by rw [ha]; exact putSel_on (e := (6, 17, .string t233)) 4 rfl rfl (hon 6 (by kernel_rfl)) rfl
      replace ha := aZ_ ha
      have BK222 := aZ_ Q_BK222
      have BK223 := aZ_ (Q_BK223 (hoff 8 (by kernel_rfl)))
      have HB := aZ_ Q_HB
      have HO231 := aZ_ (Q_HO231 (hon 0 (by kernel_rfl)))
      have HA_HO231 := aZ_ (Q_HA_HO231 (hon 0 (by kernel_rfl)))
      refine value_ (w1 := w') (v := .agg #[.string (rdOf ByteArray.empty y229 (ji20)), .string t233]) (by rfl) rfl ?_ ?_
      ·
       go_simp
       (try simp only [i64_w])
       try rfl
      refine hK.out _ _ ⟨v230, adz_v230, m2_, (by rw [ha.out]; exact putSel_upk 5 hb_ rfl rfl rfl), Q_BK222, Q_BK223, Q_HB, Q_HO231, Q_HA_HO231, fun h0_ => absurd ((hoff 8 (by kernel_rfl)).symm.trans h0_) (by decide), Q_X2_⟩
     refine steps_cons ?_ ?_
     ·
      rintro b a w' ⟨v230, adz_v230, m2_, ha, Q_BK222, Q_BK223, Q_HB, Q_HO231, Q_HA_HO231, Q_BK223_e8, Q_X2_⟩ hb_ hon hoff
      refine ⟨_, rfl, fun K hK => ?_⟩
      have e2 : a.tmps[2]? = some (.pointer (some ⟨gb223, 0, none⟩)) := by rw [ha]; exact (putSel_off rfl).trans rfl
      have e18 : a.tmps[18]? = some (.agg #[.string (rdOf ByteArray.empty y229 (ji20)), .string t233]) := by rw [ha]; exact putSel_on (e := (7, 18, .agg #[.string (rdOf ByteArray.empty y229 (ji20)), .string t233])) 5 rfl rfl (hon 7 (by kernel_rfl)) rfl
      replace ha := aZ_ ha
      have BK222 := aZ_ Q_BK222
      have BK223 := aZ_ (Q_BK223 hb_)
      have HB := aZ_ Q_HB
      have HO231 := aZ_ (Q_HO231 (hon 0 (by kernel_rfl)))
      have HA_HO231 := aZ_ (Q_HA_HO231 (hon 0 (by kernel_rfl)))
      obtain ⟨co34, eo34⟩ := HA_HO231.out
      clear HA_HO231
      subst eo34
      have hs35 : w'.cell? ⟨gb223, 0, none⟩ = some (.string (⟨#[]⟩ : ByteArray)) := (blk_cell BK223.out 0).trans rfl
      have hfs35 := blk_frozen BK223.out 0
      have hns35_0 := NB222_223.out
      have hms35_0 := NB223_222.out
      have hs36 : w'.cell? ⟨gb223, 1, none⟩ = some (.string (⟨#[]⟩ : ByteArray)) := (blk_cell BK223.out 1).trans rfl
      have hfs36 := blk_frozen BK223.out 1
      have hns36_0 := NB222_223.out
      have hms36_0 := NB223_222.out
      refine skip_ (w1 := ?_) (by rfl) rfl ?_ ?_
      rotate_left
      ·
       go_simp
       rfl
      refine hK.out _ _ ⟨.slice (some adz_v230) y229.length co34, adz_v230, m2_, (by rw [ha.out]; exact putSel_none (v := undef) rfl), (by (with_reducible repeat (first | refine blk_drewN ?_ _ | refine blk_drew ?_ | refine blk_alloc ?_ _)); refine blk_far ?_ NB222_223.out _; (with_reducible repeat (first | refine blk_drewN ?_ _ | refine blk_drew ?_ | refine blk_alloc ?_ _)); refine blk_far ?_ NB222_223.out _; (with_reducible repeat (first | refine blk_drewN ?_ _ | refine blk_drew ?_ | refine blk_alloc ?_ _)); exact BK222.out), fun h0_ => absurd ((up_self b 8).symm.trans h0_) (by decide), (bl2 HB GE222 GE223), fun _ => (by (with_reducible repeat (first | apply Kd.R_alloc | apply Kd.R_drewN | apply Kd.R_drew)); exact Kd.R_mono (Kd.R_far (p := ⟨gb223, 1, none⟩) (Kd.R_far (p := ⟨gb223, 0, none⟩) (Kd.R_types HO231.out BK223.out (by decide)) (fun _ hk => hk.2) (.string (rdOf ByteArray.empty y229 (ji20)))) (fun _ hk => hk.2) (.string t233)) (fun _ hk => trivial)), fun _ => ⟨_, rfl⟩, fun _ => (by (with_reducible repeat (first | refine blk_drewN ?_ _ | refine blk_drew ?_ | refine blk_alloc ?_ _)); refine blk_put (cs := #[.string (rdOf ByteArray.empty y229 (ji20)), .string (⟨#[]⟩ : ByteArray)]) ?_ 1 _ rfl; (with_reducible repeat (first | refine blk_drewN ?_ _ | refine blk_drew ?_ | refine blk_alloc ?_ _)); refine blk_put (cs := #[.string (⟨#[]⟩ : ByteArray), .string (⟨#[]⟩ : ByteArray)]) ?_ 0 _ rfl; (with_reducible repeat (first | refine blk_drewN ?_ _ | refine blk_drew ?_ | refine blk_alloc ?_ _)); exact BK223.out), Q_X2_⟩
     exact steps_nil
    rintro b a w35 hall ⟨v230, adz_v230, m2_, ha, Q_BK222, Q_BK223, Q_HB, Q_HO231, Q_HA_HO231, Q_BK223_e8, Q_X2_⟩
    clear BK222 BK223 HB
    have hb0_ := hall 0 (by kernel_rfl)
    have hb2_ := hall 2 (by kernel_rfl)
    have hb3_ := hall 3 (by kernel_rfl)
    have hb5_ := hall 5 (by kernel_rfl)
    have hb6_ := hall 6 (by kernel_rfl)
    have hb7_ := hall 7 (by kernel_rfl)
    have hb8_ := hall 8 (by kernel_rfl)
    subst ha
    obtain rfl := Q_X2_ hb2_
    simp only [putSel, hb0_, hb2_, hb3_, hb5_, hb6_, hb7_, hb8_, if_true, Act.put, List.setIfInBounds_toArray, List.set_cons_zero, List.set_cons_succ]
    have BK222 := aZ_ Q_BK222
    clear Q_BK222
    clear Q_BK223
    have HB := aZ_ Q_HB
    clear Q_HB
    have HO231 := aZ_ (Q_HO231 hb0_)
    clear Q_HO231
    have HA_HO231 := aZ_ (Q_HA_HO231 hb0_)
    clear Q_HA_HO231
    have BK223 := aZ_ (Q_BK223_e8 hb8_)
    clear Q_BK223_e8
    clear hall hb0_ hb2_ hb3_ hb5_ hb6_ hb7_ hb8_
    obtain ⟨co36, eo36⟩ := HA_HO231.out
    clear HA_HO231
    subst eo36
    try go_wp2
    refine bodyPost_ret (results_cell_row rfl _ _ gb223 28 #[.string (rdOf ByteArray.empty y229 (ji20)), .string t233] (0, 0) _ rfl (bk BK223) Tryz.underlying28 rfl (by kernel_rfl)) rfl ?_
    exact ⟨by first | rfl | (simp [errW_none, errW_some] <;> rfl) | (simp only [← hji20]; first | rfl | (simp [errW_none, errW_some] <;> rfl)) | (simp [*, errW_none, errW_some] <;> rfl), bl2 HB GE222 GE223⟩
   ·
    rw [if_neg c22] at H
    exact absurd H (by simp)
  ·
   rw [if_neg c21] at H
   exact absurd H (by simp)

/-! ### chancellaw3_Plain: function 41 -/
def chancellaw3_Plain.f (k : Nat) (a0_0 : Int) (a0_1 : Int) (l0_2 : List Int) (l0_3 : List (S94)) (a1 : Int) : Option (Int × Bool × Int × ByteArray × ByteArray × ByteArray × (List (S39))) := if a1 = 1 then (some (1, ((Int.tmod a0_1 2) == 0), 0, (⟨#[]⟩ : ByteArray), (⟨#[]⟩ : ByteArray), (⟨#[]⟩ : ByteArray), ([] : List (S39)))) else (if a1 = 2 then (some (2, false, a0_1, (⟨#[]⟩ : ByteArray), (⟨#[]⟩ : ByteArray), (⟨#[]⟩ : ByteArray), ([] : List (S39)))) else (if a1 = 3 then ((chancellaw3_id.f k l0_2).bind fun t236 => (some (3, false, 0, t236, (⟨#[]⟩ : ByteArray), (⟨#[]⟩ : ByteArray), ([] : List (S39))))) else ((chancellaw3_Uid.f k a0_0 a0_1 l0_2 l0_3).bind fun bt237 => (some (4, false, 0, (⟨#[]⟩ : ByteArray), bt237.1, bt237.2, ([] : List (S39)))))))
theorem chancellaw3_Plain.mono : ∀ a0 a1 a2 a3 a4 k, LeO (chancellaw3_Plain.f k a0 a1 a2 a3 a4) (chancellaw3_Plain.f (k + 1) a0 a1 a2 a3 a4) := by
 intro a0 a1 a2 a3 a4 k
 unfold chancellaw3_Plain.f
 repeat' first
   | (with_reducible exact chancellaw3_Uid.mono _ _ _ _ _)
   | (with_reducible exact chancellaw3_id.mono _ _)
   | (with_reducible exact LeO.refl _)
   | (with_reducible exact LeO.none _)
   | (with_reducible refine LeO.ite ?_ ?_)
   | (with_reducible refine LeO.bind ?_ (fun _ => ?_))
   | exact chancellaw3_Uid.mono _ _ _ _ _
   | exact chancellaw3_id.mono _ _
   | exact LeO.none _
   | refine LeO.ite ?_ ?_
   | refine LeO.bind ?_ (fun _ => ?_)
set_option maxHeartbeats 8000000 in
set_option maxRecDepth 100000 in
theorem chancellaw3_Plain.calls (k : Nat) (a0_0 : Int) (a0_1 : Int) (A0_2 : Option Addr) (c0_2 : Nat) (l0_2 : List Int) (A0_3 : Option Addr) (c0_3 : Nat) (l0_3 : List (S94)) (a1 : Int) (r1 : Int) (r2 : Bool) (r3 : Int) (r4 : ByteArray) (r5 : ByteArray) (r6 : ByteArray) (r7 : List (S39)) (w : World) (hr0_2 : Kd.C (Kd.int .i64) w A0_2 l0_2.length l0_2) (hc0_2 : l0_2.length ≤ c0_2) (hr0_3 : Kd.C k94 w A0_3 l0_3.length l0_3) (hc0_3 : l0_3.length ≤ c0_3) (h : chancellaw3_Plain.f k a0_0 a0_1 l0_2 l0_3 a1 = some (r1, r2, r3, r4, r5, r6, r7)) :
  Calls Tryz.prog 41 #[.agg #[.int .i64 a0_0, .int .i64 a0_1, .slice A0_2 l0_2.length c0_2, .slice A0_3 l0_3.length c0_3], .int .i64 a1] w fun e w' => ∃ v6_ : Value, e = .returned (.agg #[.int .i64 r1, .bool r2, .int .i64 r3, .string r4, .string r5, .string r6, v6_]) ∧ Kd.R k39 39 w' w.heap.size (fun _ => True) v6_ r7 ∧ Below w.heap.size w w' := by
 have hu94 := Tryz.underlying94
 have hu39 := Tryz.underlying39
 have HR0_2 := aZ_ hr0_2
 have HC0_2 := aZ_ hc0_2
 clear hr0_2 hc0_2
 have HR0_3 := aZ_ hr0_3
 have HC0_3 := aZ_ hc0_3
 clear hr0_3 hc0_3
 have HB := aZ_ (Below.refl w.heap.size w)
 have H : (if a1 = 1 then (some (1, ((Int.tmod a0_1 2) == 0), 0, (⟨#[]⟩ : ByteArray), (⟨#[]⟩ : ByteArray), (⟨#[]⟩ : ByteArray), ([] : List (S39)))) else (if a1 = 2 then (some (2, false, a0_1, (⟨#[]⟩ : ByteArray), (⟨#[]⟩ : ByteArray), (⟨#[]⟩ : ByteArray), ([] : List (S39)))) else (if a1 = 3 then ((chancellaw3_id.f k l0_2).bind fun t236 => (some (3, false, 0, t236, (⟨#[]⟩ : ByteArray), (⟨#[]⟩ : ByteArray), ([] : List (S39))))) else ((chancellaw3_Uid.f k a0_0 a0_1 l0_2 l0_3).bind fun bt237 => (some (4, false, 0, (⟨#[]⟩ : ByteArray), bt237.1, bt237.2, ([] : List (S39)))))))) = some (r1, r2, r3, r4, r5, r6, r7) := h
 clear h
 by_cases c3 : a1 = 1
 ·
  rw [if_pos c3] at H
  have c3b0 : (a1 == 1) = true := beq_iff_eq.mpr c3
  have c3b1 : (a1 != 1) = false := bne_eq_false_iff_eq.mpr c3
  clear c3
  simp only [Option.some.injEq, Prod.mk.injEq] at H
  obtain ⟨rfl, rfl, rfl, rfl, rfl, rfl, rfl⟩ := H
  go_enter Tryz.func41, Tryz.ntmps41
  go_wp2_with (first | ((with_reducible refine gate_dst (N := 2) rfl ?_); refine bxE 2 #[.int .i64 a0_0, .int .i64 a0_1, .slice A0_2 l0_2.length c0_2, .slice A0_3 l0_3.length c0_3] 94 ?_; intro gb234 hg w4 hbox hb; have BK234 := aZ_ (hbox); have GW234 := aZ_ ((by rw [hg]; exact (below_size (bl HB)) : w.heap.size ≤ gb234)); have GE234 := aZ_ ((by rw [hg]; exact (below_size (bl HB)) : w.heap.size ≤ gb234)); replace HB := aZ_ (below_step (bl HB) hb); clear hb hbox hg) | ((with_reducible refine gate_dst (N := 4) rfl ?_); refine bxE 4 #[.int .i64 0, .bool false, .int .i64 0, .string (⟨#[]⟩ : ByteArray), .string (⟨#[]⟩ : ByteArray), .string (⟨#[]⟩ : ByteArray), .slice none 0 0] 39 ?_; intro gb235 hg w5 hbox hb; have BK235 := aZ_ (hbox); have GW235 := aZ_ ((by rw [hg]; exact (below_size (bl1 HB GE234)) : w.heap.size ≤ gb235)); have GE235 := aZ_ ((by rw [hg]; exact (below_size (bl1 HB GE234)) : w.heap.size ≤ gb235)); replace HB := aZ_ (below_step (bl1 HB GE234) hb); have NB234_235 := aZ_ ((by rw [hg]; exact Nat.ne_of_lt (blk_lt (g := gb234) (o := .cells #[.int .i64 a0_0, .int .i64 a0_1, .slice A0_2 l0_2.length c0_2, .slice A0_3 l0_3.length c0_3] 94 (0, 0)) (bk BK234)) : gb234 ≠ gb235)); have NB235_234 := aZ_ ((by rw [hg]; exact Nat.ne_of_gt (blk_lt (g := gb234) (o := .cells #[.int .i64 a0_0, .int .i64 a0_1, .slice A0_2 l0_2.length c0_2, .slice A0_3 l0_3.length c0_3] 94 (0, 0)) (bk BK234)) : gb235 ≠ gb234)); replace BK234 := aZ_ (blk_below (g := gb234) (o := .cells #[.int .i64 a0_0, .int .i64 a0_1, .slice A0_2 l0_2.length c0_2, .slice A0_3 l0_3.length c0_3] 94 (0, 0)) (bk BK234) hb); clear hb hbox hg; have hnb6 := NB234_235.out; have hnc6 := NB235_234.out; obtain ⟨hcz7_0, hcz7_1, hcz7_2, hcz7_3, hfz7_0, hfz7_1, hfz7_2, hfz7_3⟩ := bc4 BK234; obtain ⟨hcz8_0, hcz8_1, hcz8_2, hcz8_3, hcz8_4, hcz8_5, hcz8_6, hfz8_0, hfz8_1, hfz8_2, hfz8_3, hfz8_4, hfz8_5, hfz8_6⟩ := bc7 BK235))
  refine bodyPost_ret (results_cell_row rfl _ _ gb235 39 #[.int .i64 1, .bool ((Int.tmod a0_1 2) == 0), .int .i64 0, .string (⟨#[]⟩ : ByteArray), .string (⟨#[]⟩ : ByteArray), .string (⟨#[]⟩ : ByteArray), .slice none 0 0] (0, 0) _ rfl (by (with_reducible repeat (first | refine blk_drewN ?_ _ | refine blk_drew ?_ | refine blk_alloc ?_ _)); refine blk_put (cs := #[.int .i64 1, .bool ((Int.tmod a0_1 2) == 0), .int .i64 0, .string (⟨#[]⟩ : ByteArray), .string (⟨#[]⟩ : ByteArray), .string (⟨#[]⟩ : ByteArray), .slice none 0 0]) ?_ 6 _ rfl; (with_reducible repeat (first | refine blk_drewN ?_ _ | refine blk_drew ?_ | refine blk_alloc ?_ _)); refine blk_put (cs := #[.int .i64 1, .bool ((Int.tmod a0_1 2) == 0), .int .i64 0, .string (⟨#[]⟩ : ByteArray), .string (⟨#[]⟩ : ByteArray), .string (⟨#[]⟩ : ByteArray), .slice none 0 0]) ?_ 5 _ rfl; (with_reducible repeat (first | refine blk_drewN ?_ _ | refine blk_drew ?_ | refine blk_alloc ?_ _)); refine blk_put (cs := #[.int .i64 1, .bool ((Int.tmod a0_1 2) == 0), .int .i64 0, .string (⟨#[]⟩ : ByteArray), .string (⟨#[]⟩ : ByteArray), .string (⟨#[]⟩ : ByteArray), .slice none 0 0]) ?_ 4 _ rfl; (with_reducible repeat (first | refine blk_drewN ?_ _ | refine blk_drew ?_ | refine blk_alloc ?_ _)); refine blk_put (cs := #[.int .i64 1, .bool ((Int.tmod a0_1 2) == 0), .int .i64 0, .string (⟨#[]⟩ : ByteArray), .string (⟨#[]⟩ : ByteArray), .string (⟨#[]⟩ : ByteArray), .slice none 0 0]) ?_ 3 _ rfl; (with_reducible repeat (first | refine blk_drewN ?_ _ | refine blk_drew ?_ | refine blk_alloc ?_ _)); refine blk_put (cs := #[.int .i64 1, .bool ((Int.tmod a0_1 2) == 0), .int .i64 0, .string (⟨#[]⟩ : ByteArray), .string (⟨#[]⟩ : ByteArray), .string (⟨#[]⟩ : ByteArray), .slice none 0 0]) ?_ 2 _ rfl; (with_reducible repeat (first | refine blk_drewN ?_ _ | refine blk_drew ?_ | refine blk_alloc ?_ _)); refine blk_put (cs := #[.int .i64 1, .bool false, .int .i64 0, .string (⟨#[]⟩ : ByteArray), .string (⟨#[]⟩ : ByteArray), .string (⟨#[]⟩ : ByteArray), .slice none 0 0]) ?_ 1 _ rfl; (with_reducible repeat (first | refine blk_drewN ?_ _ | refine blk_drew ?_ | refine blk_alloc ?_ _)); refine blk_put (cs := #[.int .i64 0, .bool false, .int .i64 0, .string (⟨#[]⟩ : ByteArray), .string (⟨#[]⟩ : ByteArray), .string (⟨#[]⟩ : ByteArray), .slice none 0 0]) ?_ 0 _ rfl; (with_reducible repeat (first | refine blk_drewN ?_ _ | refine blk_drew ?_ | refine blk_alloc ?_ _)); exact BK235.out) Tryz.underlying39 rfl (by kernel_rfl)) rfl ?_
  exact ⟨_, by first | rfl | (simp [errW_none, errW_some] <;> rfl) | (simp [*, errW_none, errW_some] <;> rfl), by first | exact Kd.R_nil _ _ _ _ _ | exact Kd.N_nil _ _ _ _ _ | exact Kd.V_nil _ _ _ _ _ | exact Kd.Q_nil _ _ _ _ _ | exact Kd.S_nil _ _ _ _ _, bl2 HB GE234 GE235⟩
 ·
  rw [if_neg c3] at H
  have c3b0 : (a1 == 1) = false := beq_eq_false_iff_ne.mpr c3
  have c3b1 : (a1 != 1) = true := bne_iff_ne.mpr c3
  by_cases c9 : a1 = 2
  ·
   rw [if_pos c9] at H
   have c9b0 : (a1 == 2) = true := beq_iff_eq.mpr c9
   have c9b1 : (a1 != 2) = false := bne_eq_false_iff_eq.mpr c9
   clear c9
   simp only [Option.some.injEq, Prod.mk.injEq] at H
   obtain ⟨rfl, rfl, rfl, rfl, rfl, rfl, rfl⟩ := H
   go_enter Tryz.func41, Tryz.ntmps41
   go_wp2_with (first | ((with_reducible refine gate_dst (N := 2) rfl ?_); refine bxE 2 #[.int .i64 a0_0, .int .i64 a0_1, .slice A0_2 l0_2.length c0_2, .slice A0_3 l0_3.length c0_3] 94 ?_; intro gb234 hg w10 hbox hb; have BK234 := aZ_ (hbox); have GW234 := aZ_ ((by rw [hg]; exact (below_size (bl HB)) : w.heap.size ≤ gb234)); have GE234 := aZ_ ((by rw [hg]; exact (below_size (bl HB)) : w.heap.size ≤ gb234)); replace HB := aZ_ (below_step (bl HB) hb); clear hb hbox hg) | ((with_reducible refine gate_dst (N := 4) rfl ?_); refine bxE 4 #[.int .i64 0, .bool false, .int .i64 0, .string (⟨#[]⟩ : ByteArray), .string (⟨#[]⟩ : ByteArray), .string (⟨#[]⟩ : ByteArray), .slice none 0 0] 39 ?_; intro gb235 hg w11 hbox hb; have BK235 := aZ_ (hbox); have GW235 := aZ_ ((by rw [hg]; exact (below_size (bl1 HB GE234)) : w.heap.size ≤ gb235)); have GE235 := aZ_ ((by rw [hg]; exact (below_size (bl1 HB GE234)) : w.heap.size ≤ gb235)); replace HB := aZ_ (below_step (bl1 HB GE234) hb); have NB234_235 := aZ_ ((by rw [hg]; exact Nat.ne_of_lt (blk_lt (g := gb234) (o := .cells #[.int .i64 a0_0, .int .i64 a0_1, .slice A0_2 l0_2.length c0_2, .slice A0_3 l0_3.length c0_3] 94 (0, 0)) (bk BK234)) : gb234 ≠ gb235)); have NB235_234 := aZ_ ((by rw [hg]; exact Nat.ne_of_gt (blk_lt (g := gb234) (o := .cells #[.int .i64 a0_0, .int .i64 a0_1, .slice A0_2 l0_2.length c0_2, .slice A0_3 l0_3.length c0_3] 94 (0, 0)) (bk BK234)) : gb235 ≠ gb234)); replace BK234 := aZ_ (blk_below (g := gb234) (o := .cells #[.int .i64 a0_0, .int .i64 a0_1, .slice A0_2 l0_2.length c0_2, .slice A0_3 l0_3.length c0_3] 94 (0, 0)) (bk BK234) hb); clear hb hbox hg; have hnb12 := NB234_235.out; have hnc12 := NB235_234.out; obtain ⟨hcz13_0, hcz13_1, hcz13_2, hcz13_3, hfz13_0, hfz13_1, hfz13_2, hfz13_3⟩ := bc4 BK234; obtain ⟨hcz14_0, hcz14_1, hcz14_2, hcz14_3, hcz14_4, hcz14_5, hcz14_6, hfz14_0, hfz14_1, hfz14_2, hfz14_3, hfz14_4, hfz14_5, hfz14_6⟩ := bc7 BK235))
   refine bodyPost_ret (results_cell_row rfl _ _ gb235 39 #[.int .i64 2, .bool false, .int .i64 a0_1, .string (⟨#[]⟩ : ByteArray), .string (⟨#[]⟩ : ByteArray), .string (⟨#[]⟩ : ByteArray), .slice none 0 0] (0, 0) _ rfl (by (with_reducible repeat (first | refine blk_drewN ?_ _ | refine blk_drew ?_ | refine blk_alloc ?_ _)); refine blk_put (cs := #[.int .i64 2, .bool false, .int .i64 a0_1, .string (⟨#[]⟩ : ByteArray), .string (⟨#[]⟩ : ByteArray), .string (⟨#[]⟩ : ByteArray), .slice none 0 0]) ?_ 6 _ rfl; (with_reducible repeat (first | refine blk_drewN ?_ _ | refine blk_drew ?_ | refine blk_alloc ?_ _)); refine blk_put (cs := #[.int .i64 2, .bool false, .int .i64 a0_1, .string (⟨#[]⟩ : ByteArray), .string (⟨#[]⟩ : ByteArray), .string (⟨#[]⟩ : ByteArray), .slice none 0 0]) ?_ 5 _ rfl; (with_reducible repeat (first | refine blk_drewN ?_ _ | refine blk_drew ?_ | refine blk_alloc ?_ _)); refine blk_put (cs := #[.int .i64 2, .bool false, .int .i64 a0_1, .string (⟨#[]⟩ : ByteArray), .string (⟨#[]⟩ : ByteArray), .string (⟨#[]⟩ : ByteArray), .slice none 0 0]) ?_ 4 _ rfl; (with_reducible repeat (first | refine blk_drewN ?_ _ | refine blk_drew ?_ | refine blk_alloc ?_ _)); refine blk_put (cs := #[.int .i64 2, .bool false, .int .i64 a0_1, .string (⟨#[]⟩ : ByteArray), .string (⟨#[]⟩ : ByteArray), .string (⟨#[]⟩ : ByteArray), .slice none 0 0]) ?_ 3 _ rfl; (with_reducible repeat (first | refine blk_drewN ?_ _ | refine blk_drew ?_ | refine blk_alloc ?_ _)); refine blk_put (cs := #[.int .i64 2, .bool false, .int .i64 0, .string (⟨#[]⟩ : ByteArray), .string (⟨#[]⟩ : ByteArray), .string (⟨#[]⟩ : ByteArray), .slice none 0 0]) ?_ 2 _ rfl; (with_reducible repeat (first | refine blk_drewN ?_ _ | refine blk_drew ?_ | refine blk_alloc ?_ _)); refine blk_put (cs := #[.int .i64 2, .bool false, .int .i64 0, .string (⟨#[]⟩ : ByteArray), .string (⟨#[]⟩ : ByteArray), .string (⟨#[]⟩ : ByteArray), .slice none 0 0]) ?_ 1 _ rfl; (with_reducible repeat (first | refine blk_drewN ?_ _ | refine blk_drew ?_ | refine blk_alloc ?_ _)); refine blk_put (cs := #[.int .i64 0, .bool false, .int .i64 0, .string (⟨#[]⟩ : ByteArray), .string (⟨#[]⟩ : ByteArray), .string (⟨#[]⟩ : ByteArray), .slice none 0 0]) ?_ 0 _ rfl; (with_reducible repeat (first | refine blk_drewN ?_ _ | refine blk_drew ?_ | refine blk_alloc ?_ _)); exact BK235.out) Tryz.underlying39 rfl (by kernel_rfl)) rfl ?_
   exact ⟨_, by first | rfl | (simp [errW_none, errW_some] <;> rfl) | (simp [*, errW_none, errW_some] <;> rfl), by first | exact Kd.R_nil _ _ _ _ _ | exact Kd.N_nil _ _ _ _ _ | exact Kd.V_nil _ _ _ _ _ | exact Kd.Q_nil _ _ _ _ _ | exact Kd.S_nil _ _ _ _ _, bl2 HB GE234 GE235⟩
  ·
   rw [if_neg c9] at H
   have c9b0 : (a1 == 2) = false := beq_eq_false_iff_ne.mpr c9
   have c9b1 : (a1 != 2) = true := bne_iff_ne.mpr c9
   by_cases c15 : a1 = 3
   ·
    rw [if_pos c15] at H
    have c15b0 : (a1 == 3) = true := beq_iff_eq.mpr c15
    have c15b1 : (a1 != 3) = false := bne_eq_false_iff_eq.mpr c15
    clear c15
    replace H := Option.bind_eq_some_iff.mp H
    obtain ⟨t236, A160, H⟩ := H
    replace H : (some (3, false, 0, t236, (⟨#[]⟩ : ByteArray), (⟨#[]⟩ : ByteArray), ([] : List (S39)))) = some (r1, r2, r3, r4, r5, r6, r7) := H
    have A16 := aZ_ A160
    clear A160
    simp only [Option.some.injEq, Prod.mk.injEq] at H
    obtain ⟨rfl, rfl, rfl, rfl, rfl, rfl, rfl⟩ := H
    go_enter Tryz.func41, Tryz.ntmps41
    go_wp2_with (first | ((with_reducible refine gate_dst (N := 2) rfl ?_); refine bxE 2 #[.int .i64 a0_0, .int .i64 a0_1, .slice A0_2 l0_2.length c0_2, .slice A0_3 l0_3.length c0_3] 94 ?_; intro gb234 hg w17 hbox hb; have BK234 := aZ_ (hbox); have GW234 := aZ_ ((by rw [hg]; exact (below_size (bl HB)) : w.heap.size ≤ gb234)); have GE234 := aZ_ ((by rw [hg]; exact (below_size (bl HB)) : w.heap.size ≤ gb234)); replace HB := aZ_ (below_step (bl HB) hb); clear hb hbox hg) | ((with_reducible refine gate_dst (N := 4) rfl ?_); refine bxE 4 #[.int .i64 0, .bool false, .int .i64 0, .string (⟨#[]⟩ : ByteArray), .string (⟨#[]⟩ : ByteArray), .string (⟨#[]⟩ : ByteArray), .slice none 0 0] 39 ?_; intro gb235 hg w18 hbox hb; have BK235 := aZ_ (hbox); have GW235 := aZ_ ((by rw [hg]; exact (below_size (bl1 HB GE234)) : w.heap.size ≤ gb235)); have GE235 := aZ_ ((by rw [hg]; exact (below_size (bl1 HB GE234)) : w.heap.size ≤ gb235)); replace HB := aZ_ (below_step (bl1 HB GE234) hb); have NB234_235 := aZ_ ((by rw [hg]; exact Nat.ne_of_lt (blk_lt (g := gb234) (o := .cells #[.int .i64 a0_0, .int .i64 a0_1, .slice A0_2 l0_2.length c0_2, .slice A0_3 l0_3.length c0_3] 94 (0, 0)) (bk BK234)) : gb234 ≠ gb235)); have NB235_234 := aZ_ ((by rw [hg]; exact Nat.ne_of_gt (blk_lt (g := gb234) (o := .cells #[.int .i64 a0_0, .int .i64 a0_1, .slice A0_2 l0_2.length c0_2, .slice A0_3 l0_3.length c0_3] 94 (0, 0)) (bk BK234)) : gb235 ≠ gb234)); replace BK234 := aZ_ (blk_below (g := gb234) (o := .cells #[.int .i64 a0_0, .int .i64 a0_1, .slice A0_2 l0_2.length c0_2, .slice A0_3 l0_3.length c0_3] 94 (0, 0)) (bk BK234) hb); clear hb hbox hg; have hnb19 := NB234_235.out; have hnc19 := NB235_234.out; obtain ⟨hcz20_0, hcz20_1, hcz20_2, hcz20_3, hfz20_0, hfz20_1, hfz20_2, hfz20_3⟩ := bc4 BK234) | ((with_reducible refine gate_callee (f := 59) rfl ?_); refine goesL_ (some 22) rfl rfl Tryz.func59 (by kernel_rfl) rfl #[.slice A0_2 l0_2.length c0_2] rfl gm_ ?_; (with_reducible refine (chancellaw3_id.calls k _ _ l0_2 t236 _ ?side1 ?side2 A16.out).mono ?_); (case side1 => exact kC (Kd.C_below HR0_2.out HB.out)); (case side2 => exact HC0_2.out); rintro e w21 ⟨rfl, hb⟩; refine ⟨_, rfl, ?_⟩; replace BK234 := aZ_ (blk_below (g := gb234) (o := .cells #[.int .i64 a0_0, .int .i64 a0_1, .slice A0_2 l0_2.length c0_2, .slice A0_3 l0_3.length c0_3] 94 (0, 0)) (bk BK234) hb); replace BK235 := aZ_ (blk_below (g := gb235) (o := .cells #[.int .i64 0, .bool false, .int .i64 0, .string (⟨#[]⟩ : ByteArray), .string (⟨#[]⟩ : ByteArray), .string (⟨#[]⟩ : ByteArray), .slice none 0 0] 39 (0, 0)) (bk BK235) hb); replace HB := aZ_ (below_step (bl2 HB GE234 GE235) hb); (try clear hb); (try clear hb2); (try clear hk); (try clear hi); obtain ⟨hcz22_0, hcz22_1, hcz22_2, hcz22_3, hcz22_4, hcz22_5, hcz22_6, hfz22_0, hfz22_1, hfz22_2, hfz22_3, hfz22_4, hfz22_5, hfz22_6⟩ := bc7 BK235))
    refine bodyPost_ret (results_cell_row rfl _ _ gb235 39 #[.int .i64 3, .bool false, .int .i64 0, .string t236, .string (⟨#[]⟩ : ByteArray), .string (⟨#[]⟩ : ByteArray), .slice none 0 0] (0, 0) _ rfl (by (with_reducible repeat (first | refine blk_drewN ?_ _ | refine blk_drew ?_ | refine blk_alloc ?_ _)); refine blk_put (cs := #[.int .i64 3, .bool false, .int .i64 0, .string t236, .string (⟨#[]⟩ : ByteArray), .string (⟨#[]⟩ : ByteArray), .slice none 0 0]) ?_ 6 _ rfl; (with_reducible repeat (first | refine blk_drewN ?_ _ | refine blk_drew ?_ | refine blk_alloc ?_ _)); refine blk_put (cs := #[.int .i64 3, .bool false, .int .i64 0, .string t236, .string (⟨#[]⟩ : ByteArray), .string (⟨#[]⟩ : ByteArray), .slice none 0 0]) ?_ 5 _ rfl; (with_reducible repeat (first | refine blk_drewN ?_ _ | refine blk_drew ?_ | refine blk_alloc ?_ _)); refine blk_put (cs := #[.int .i64 3, .bool false, .int .i64 0, .string t236, .string (⟨#[]⟩ : ByteArray), .string (⟨#[]⟩ : ByteArray), .slice none 0 0]) ?_ 4 _ rfl; (with_reducible repeat (first | refine blk_drewN ?_ _ | refine blk_drew ?_ | refine blk_alloc ?_ _)); refine blk_put (cs := #[.int .i64 3, .bool false, .int .i64 0, .string (⟨#[]⟩ : ByteArray), .string (⟨#[]⟩ : ByteArray), .string (⟨#[]⟩ : ByteArray), .slice none 0 0]) ?_ 3 _ rfl; (with_reducible repeat (first | refine blk_drewN ?_ _ | refine blk_drew ?_ | refine blk_alloc ?_ _)); refine blk_put (cs := #[.int .i64 3, .bool false, .int .i64 0, .string (⟨#[]⟩ : ByteArray), .string (⟨#[]⟩ : ByteArray), .string (⟨#[]⟩ : ByteArray), .slice none 0 0]) ?_ 2 _ rfl; (with_reducible repeat (first | refine blk_drewN ?_ _ | refine blk_drew ?_ | refine blk_alloc ?_ _)); refine blk_put (cs := #[.int .i64 3, .bool false, .int .i64 0, .string (⟨#[]⟩ : ByteArray), .string (⟨#[]⟩ : ByteArray), .string (⟨#[]⟩ : ByteArray), .slice none 0 0]) ?_ 1 _ rfl; (with_reducible repeat (first | refine blk_drewN ?_ _ | refine blk_drew ?_ | refine blk_alloc ?_ _)); refine blk_put (cs := #[.int .i64 0, .bool false, .int .i64 0, .string (⟨#[]⟩ : ByteArray), .string (⟨#[]⟩ : ByteArray), .string (⟨#[]⟩ : ByteArray), .slice none 0 0]) ?_ 0 _ rfl; (with_reducible repeat (first | refine blk_drewN ?_ _ | refine blk_drew ?_ | refine blk_alloc ?_ _)); exact BK235.out) Tryz.underlying39 rfl (by kernel_rfl)) rfl ?_
    exact ⟨_, by first | rfl | (simp [errW_none, errW_some] <;> rfl) | (simp [*, errW_none, errW_some] <;> rfl), by first | exact Kd.R_nil _ _ _ _ _ | exact Kd.N_nil _ _ _ _ _ | exact Kd.V_nil _ _ _ _ _ | exact Kd.Q_nil _ _ _ _ _ | exact Kd.S_nil _ _ _ _ _, bl2 HB GE234 GE235⟩
   ·
    rw [if_neg c15] at H
    have c15b0 : (a1 == 3) = false := beq_eq_false_iff_ne.mpr c15
    have c15b1 : (a1 != 3) = true := bne_iff_ne.mpr c15
    replace H := Option.bind_eq_some_iff.mp H
    obtain ⟨⟨t237, t238⟩, A230, H⟩ := H
    replace H : (some (4, false, 0, (⟨#[]⟩ : ByteArray), t237, t238, ([] : List (S39)))) = some (r1, r2, r3, r4, r5, r6, r7) := H
    have A23 := aZ_ A230
    clear A230
    simp only [Option.some.injEq, Prod.mk.injEq] at H
    obtain ⟨rfl, rfl, rfl, rfl, rfl, rfl, rfl⟩ := H
    go_enter Tryz.func41, Tryz.ntmps41
    go_wp2_with (first | ((with_reducible refine gate_dst (N := 2) rfl ?_); refine bxE 2 #[.int .i64 a0_0, .int .i64 a0_1, .slice A0_2 l0_2.length c0_2, .slice A0_3 l0_3.length c0_3] 94 ?_; intro gb234 hg w24 hbox hb; have BK234 := aZ_ (hbox); have GW234 := aZ_ ((by rw [hg]; exact (below_size (bl HB)) : w.heap.size ≤ gb234)); have GE234 := aZ_ ((by rw [hg]; exact (below_size (bl HB)) : w.heap.size ≤ gb234)); replace HB := aZ_ (below_step (bl HB) hb); clear hb hbox hg) | ((with_reducible refine gate_dst (N := 4) rfl ?_); refine bxE 4 #[.int .i64 0, .bool false, .int .i64 0, .string (⟨#[]⟩ : ByteArray), .string (⟨#[]⟩ : ByteArray), .string (⟨#[]⟩ : ByteArray), .slice none 0 0] 39 ?_; intro gb235 hg w25 hbox hb; have BK235 := aZ_ (hbox); have GW235 := aZ_ ((by rw [hg]; exact (below_size (bl1 HB GE234)) : w.heap.size ≤ gb235)); have GE235 := aZ_ ((by rw [hg]; exact (below_size (bl1 HB GE234)) : w.heap.size ≤ gb235)); replace HB := aZ_ (below_step (bl1 HB GE234) hb); have NB234_235 := aZ_ ((by rw [hg]; exact Nat.ne_of_lt (blk_lt (g := gb234) (o := .cells #[.int .i64 a0_0, .int .i64 a0_1, .slice A0_2 l0_2.length c0_2, .slice A0_3 l0_3.length c0_3] 94 (0, 0)) (bk BK234)) : gb234 ≠ gb235)); have NB235_234 := aZ_ ((by rw [hg]; exact Nat.ne_of_gt (blk_lt (g := gb234) (o := .cells #[.int .i64 a0_0, .int .i64 a0_1, .slice A0_2 l0_2.length c0_2, .slice A0_3 l0_3.length c0_3] 94 (0, 0)) (bk BK234)) : gb235 ≠ gb234)); replace BK234 := aZ_ (blk_below (g := gb234) (o := .cells #[.int .i64 a0_0, .int .i64 a0_1, .slice A0_2 l0_2.length c0_2, .slice A0_3 l0_3.length c0_3] 94 (0, 0)) (bk BK234) hb); clear hb hbox hg; have hnb26 := NB234_235.out; have hnc26 := NB235_234.out; obtain ⟨hcz27_0, hcz27_1, hcz27_2, hcz27_3, hfz27_0, hfz27_1, hfz27_2, hfz27_3⟩ := bc4 BK234) | ((with_reducible refine gate_callee (f := 60) rfl ?_); refine goesL_ (some 25) rfl rfl Tryz.func60 (by kernel_rfl) rfl #[.agg #[.int .i64 a0_0, .int .i64 a0_1, .slice A0_2 l0_2.length c0_2, .slice A0_3 l0_3.length c0_3]] rfl gm_ ?_; (with_reducible refine (chancellaw3_Uid.calls k a0_0 a0_1 _ _ l0_2 _ _ l0_3 t237 t238 _ ?side1 ?side2 ?side3 ?side4 A23.out).mono ?_); (case side1 => exact kC (Kd.C_below HR0_2.out HB.out)); (case side2 => exact HC0_2.out); (case side3 => exact kC (Kd.C_below HR0_3.out HB.out)); (case side4 => exact HC0_3.out); rintro e w28 ⟨rfl, hb⟩; refine ⟨_, rfl, ?_⟩; replace BK234 := aZ_ (blk_below (g := gb234) (o := .cells #[.int .i64 a0_0, .int .i64 a0_1, .slice A0_2 l0_2.length c0_2, .slice A0_3 l0_3.length c0_3] 94 (0, 0)) (bk BK234) hb); replace BK235 := aZ_ (blk_below (g := gb235) (o := .cells #[.int .i64 0, .bool false, .int .i64 0, .string (⟨#[]⟩ : ByteArray), .string (⟨#[]⟩ : ByteArray), .string (⟨#[]⟩ : ByteArray), .slice none 0 0] 39 (0, 0)) (bk BK235) hb); replace HB := aZ_ (below_step (bl2 HB GE234 GE235) hb); (try clear hb); (try clear hb2); (try clear hk); (try clear hi); obtain ⟨hcz29_0, hcz29_1, hcz29_2, hcz29_3, hcz29_4, hcz29_5, hcz29_6, hfz29_0, hfz29_1, hfz29_2, hfz29_3, hfz29_4, hfz29_5, hfz29_6⟩ := bc7 BK235))
    refine bodyPost_ret (results_cell_row rfl _ _ gb235 39 #[.int .i64 4, .bool false, .int .i64 0, .string (⟨#[]⟩ : ByteArray), .string t237, .string t238, .slice none 0 0] (0, 0) _ rfl (by (with_reducible repeat (first | refine blk_drewN ?_ _ | refine blk_drew ?_ | refine blk_alloc ?_ _)); refine blk_put (cs := #[.int .i64 4, .bool false, .int .i64 0, .string (⟨#[]⟩ : ByteArray), .string t237, .string t238, .slice none 0 0]) ?_ 6 _ rfl; (with_reducible repeat (first | refine blk_drewN ?_ _ | refine blk_drew ?_ | refine blk_alloc ?_ _)); refine blk_put (cs := #[.int .i64 4, .bool false, .int .i64 0, .string (⟨#[]⟩ : ByteArray), .string t237, .string (⟨#[]⟩ : ByteArray), .slice none 0 0]) ?_ 5 _ rfl; (with_reducible repeat (first | refine blk_drewN ?_ _ | refine blk_drew ?_ | refine blk_alloc ?_ _)); refine blk_put (cs := #[.int .i64 4, .bool false, .int .i64 0, .string (⟨#[]⟩ : ByteArray), .string (⟨#[]⟩ : ByteArray), .string (⟨#[]⟩ : ByteArray), .slice none 0 0]) ?_ 4 _ rfl; (with_reducible repeat (first | refine blk_drewN ?_ _ | refine blk_drew ?_ | refine blk_alloc ?_ _)); refine blk_put (cs := #[.int .i64 4, .bool false, .int .i64 0, .string (⟨#[]⟩ : ByteArray), .string (⟨#[]⟩ : ByteArray), .string (⟨#[]⟩ : ByteArray), .slice none 0 0]) ?_ 3 _ rfl; (with_reducible repeat (first | refine blk_drewN ?_ _ | refine blk_drew ?_ | refine blk_alloc ?_ _)); refine blk_put (cs := #[.int .i64 4, .bool false, .int .i64 0, .string (⟨#[]⟩ : ByteArray), .string (⟨#[]⟩ : ByteArray), .string (⟨#[]⟩ : ByteArray), .slice none 0 0]) ?_ 2 _ rfl; (with_reducible repeat (first | refine blk_drewN ?_ _ | refine blk_drew ?_ | refine blk_alloc ?_ _)); refine blk_put (cs := #[.int .i64 4, .bool false, .int .i64 0, .string (⟨#[]⟩ : ByteArray), .string (⟨#[]⟩ : ByteArray), .string (⟨#[]⟩ : ByteArray), .slice none 0 0]) ?_ 1 _ rfl; (with_reducible repeat (first | refine blk_drewN ?_ _ | refine blk_drew ?_ | refine blk_alloc ?_ _)); refine blk_put (cs := #[.int .i64 0, .bool false, .int .i64 0, .string (⟨#[]⟩ : ByteArray), .string (⟨#[]⟩ : ByteArray), .string (⟨#[]⟩ : ByteArray), .slice none 0 0]) ?_ 0 _ rfl; (with_reducible repeat (first | refine blk_drewN ?_ _ | refine blk_drew ?_ | refine blk_alloc ?_ _)); exact BK235.out) Tryz.underlying39 rfl (by kernel_rfl)) rfl ?_
    exact ⟨_, by first | rfl | (simp [errW_none, errW_some] <;> rfl) | (simp [*, errW_none, errW_some] <;> rfl), by first | exact Kd.R_nil _ _ _ _ _ | exact Kd.N_nil _ _ _ _ _ | exact Kd.V_nil _ _ _ _ _ | exact Kd.Q_nil _ _ _ _ _ | exact Kd.S_nil _ _ _ _ _, bl2 HB GE234 GE235⟩

/-! ### chancelref3_LessUid: function 16 -/
def chancelref3_LessUid.f (a0_0 : ByteArray) (a0_1 : ByteArray) (a1_0 : ByteArray) (a1_1 : ByteArray) : Option (Bool) := if a0_0.toList = a1_0.toList then (some (Op.bytesLess a0_1.toList a1_1.toList)) else (some (Op.bytesLess a0_0.toList a1_0.toList))
set_option maxHeartbeats 8000000 in
set_option maxRecDepth 100000 in
theorem chancelref3_LessUid.calls (a0_0 : ByteArray) (a0_1 : ByteArray) (a1_0 : ByteArray) (a1_1 : ByteArray) (r : Bool) (w : World) (h : chancelref3_LessUid.f a0_0 a0_1 a1_0 a1_1 = some r) :
  Calls Tryz.prog 16 #[.agg #[.string a0_0, .string a0_1], .agg #[.string a1_0, .string a1_1]] w fun e w' => e = .returned (.bool r) ∧ Below w.heap.size w w' := by
 have hu28 := Tryz.underlying28
 have HB := aZ_ (Below.refl w.heap.size w)
 have H : (if a0_0.toList = a1_0.toList then (some (Op.bytesLess a0_1.toList a1_1.toList)) else (some (Op.bytesLess a0_0.toList a1_0.toList))) = some r := h
 clear h
 by_cases c3 : a0_0.toList = a1_0.toList
 ·
  rw [if_pos c3] at H
  have c3b0 : (a0_0.toList == a1_0.toList) = true := beq_iff_eq.mpr c3
  have c3b1 : (a0_0.toList != a1_0.toList) = false := bne_eq_false_iff_eq.mpr c3
  clear c3
  obtain rfl := Option.some.inj H
  go_enter Tryz.func16, Tryz.ntmps16
  go_wp2_with (first | ((with_reducible refine gate_dst (N := 2) rfl ?_); refine bxE 2 #[.string a0_0, .string a0_1] 28 ?_; intro gb239 hg w4 hbox hb; have BK239 := aZ_ (hbox); have GW239 := aZ_ ((by rw [hg]; exact (below_size (bl HB)) : w.heap.size ≤ gb239)); have GE239 := aZ_ ((by rw [hg]; exact (below_size (bl HB)) : w.heap.size ≤ gb239)); replace HB := aZ_ (below_step (bl HB) hb); clear hb hbox hg) | ((with_reducible refine gate_dst (N := 3) rfl ?_); refine bxE 3 #[.string a1_0, .string a1_1] 28 ?_; intro gb240 hg w5 hbox hb; have BK240 := aZ_ (hbox); have GW240 := aZ_ ((by rw [hg]; exact (below_size (bl1 HB GE239)) : w.heap.size ≤ gb240)); have GE240 := aZ_ ((by rw [hg]; exact (below_size (bl1 HB GE239)) : w.heap.size ≤ gb240)); replace HB := aZ_ (below_step (bl1 HB GE239) hb); have NB239_240 := aZ_ ((by rw [hg]; exact Nat.ne_of_lt (blk_lt (g := gb239) (o := .cells #[.string a0_0, .string a0_1] 28 (0, 0)) (bk BK239)) : gb239 ≠ gb240)); have NB240_239 := aZ_ ((by rw [hg]; exact Nat.ne_of_gt (blk_lt (g := gb239) (o := .cells #[.string a0_0, .string a0_1] 28 (0, 0)) (bk BK239)) : gb240 ≠ gb239)); replace BK239 := aZ_ (blk_below (g := gb239) (o := .cells #[.string a0_0, .string a0_1] 28 (0, 0)) (bk BK239) hb); clear hb hbox hg; have hnb6 := NB239_240.out; have hnc6 := NB240_239.out; obtain ⟨hcz7_0, hcz7_1, hfz7_0, hfz7_1⟩ := bc2 BK239; obtain ⟨hcz8_0, hcz8_1, hfz8_0, hfz8_1⟩ := bc2 BK240))
  go_ret
  exact ⟨by first | rfl | (simp [errW_none, errW_some] <;> rfl) | (simp [*, errW_none, errW_some] <;> rfl), bl2 HB GE239 GE240⟩
 ·
  rw [if_neg c3] at H
  have c3b0 : (a0_0.toList == a1_0.toList) = false := beq_eq_false_iff_ne.mpr c3
  have c3b1 : (a0_0.toList != a1_0.toList) = true := bne_iff_ne.mpr c3
  obtain rfl := Option.some.inj H
  go_enter Tryz.func16, Tryz.ntmps16
  go_wp2_with (first | ((with_reducible refine gate_dst (N := 2) rfl ?_); refine bxE 2 #[.string a0_0, .string a0_1] 28 ?_; intro gb239 hg w9 hbox hb; have BK239 := aZ_ (hbox); have GW239 := aZ_ ((by rw [hg]; exact (below_size (bl HB)) : w.heap.size ≤ gb239)); have GE239 := aZ_ ((by rw [hg]; exact (below_size (bl HB)) : w.heap.size ≤ gb239)); replace HB := aZ_ (below_step (bl HB) hb); clear hb hbox hg) | ((with_reducible refine gate_dst (N := 3) rfl ?_); refine bxE 3 #[.string a1_0, .string a1_1] 28 ?_; intro gb240 hg w10 hbox hb; have BK240 := aZ_ (hbox); have GW240 := aZ_ ((by rw [hg]; exact (below_size (bl1 HB GE239)) : w.heap.size ≤ gb240)); have GE240 := aZ_ ((by rw [hg]; exact (below_size (bl1 HB GE239)) : w.heap.size ≤ gb240)); replace HB := aZ_ (below_step (bl1 HB GE239) hb); have NB239_240 := aZ_ ((by rw [hg]; exact Nat.ne_of_lt (blk_lt (g := gb239) (o := .cells #[.string a0_0, .string a0_1] 28 (0, 0)) (bk BK239)) : gb239 ≠ gb240)); have NB240_239 := aZ_ ((by rw [hg]; exact Nat.ne_of_gt (blk_lt (g := gb239) (o := .cells #[.string a0_0, .string a0_1] 28 (0, 0)) (bk BK239)) : gb240 ≠ gb239)); replace BK239 := aZ_ (blk_below (g := gb239) (o := .cells #[.string a0_0, .string a0_1] 28 (0, 0)) (bk BK239) hb); clear hb hbox hg; have hnb11 := NB239_240.out; have hnc11 := NB240_239.out; obtain ⟨hcz12_0, hcz12_1, hfz12_0, hfz12_1⟩ := bc2 BK239; obtain ⟨hcz13_0, hcz13_1, hfz13_0, hfz13_1⟩ := bc2 BK240))
  go_ret
  exact ⟨by first | rfl | (simp [errW_none, errW_some] <;> rfl) | (simp [*, errW_none, errW_some] <;> rfl), bl2 HB GE239 GE240⟩

-- NOT PRINTED: function 61 (chancelref3_Less)

-- NOT PRINTED: function 62 (chancelref3_Same)

-- NOT PRINTED: function 42 (chancelref3_Set)

-- NOT PRINTED: function 28 (chancellaw3_Good)

/-! ### chancellaw5_name: function 29 -/
def chancellaw5_name.f (a0 : Int) : Option (ByteArray) := (some (([(⟨#[97]⟩ : ByteArray), (⟨#[97, 103, 101]⟩ : ByteArray), (⟨#[105, 102]⟩ : ByteArray), (⟨#[99, 111, 110, 116, 97, 105, 110, 115]⟩ : ByteArray), (⟨#[112, 114, 105, 110, 99, 105, 112, 97, 108]⟩ : ByteArray), (⟨#[95, 120]⟩ : ByteArray), (⟨#[110, 97, 109, 101]⟩ : ByteArray)] : List ByteArray) : List ByteArray)).bind fun y241 => ((chancellaw5_within.f a0 7).bind fun t244 => (if 0 ≤ t244 then (if t244 < (y241.length : Int) then (some (rdOf ByteArray.empty y241 t244)) else (none)) else (none)))
set_option maxHeartbeats 8000000 in
set_option maxRecDepth 100000 in
theorem chancellaw5_name.calls (a0 : Int) (r : ByteArray) (w : World) (h : chancellaw5_name.f a0 = some r) :
  Calls Tryz.prog 29 #[.int .i64 a0] w fun e w' => e = .returned (.string r) ∧ Below w.heap.size w w' := by
 have HB := aZ_ (Below.refl w.heap.size w)
 have H : ((some (([(⟨#[97]⟩ : ByteArray), (⟨#[97, 103, 101]⟩ : ByteArray), (⟨#[105, 102]⟩ : ByteArray), (⟨#[99, 111, 110, 116, 97, 105, 110, 115]⟩ : ByteArray), (⟨#[112, 114, 105, 110, 99, 105, 112, 97, 108]⟩ : ByteArray), (⟨#[95, 120]⟩ : ByteArray), (⟨#[110, 97, 109, 101]⟩ : ByteArray)] : List ByteArray) : List ByteArray)).bind fun y241 => ((chancellaw5_within.f a0 7).bind fun t244 => (if 0 ≤ t244 then (if t244 < (y241.length : Int) then (some (rdOf ByteArray.empty y241 t244)) else (none)) else (none)))) = some r := h
 clear h
 obtain ⟨y241, hy241⟩ : ∃ y_ : List ByteArray, y_ = (([(⟨#[97]⟩ : ByteArray), (⟨#[97, 103, 101]⟩ : ByteArray), (⟨#[105, 102]⟩ : ByteArray), (⟨#[99, 111, 110, 116, 97, 105, 110, 115]⟩ : ByteArray), (⟨#[112, 114, 105, 110, 99, 105, 112, 97, 108]⟩ : ByteArray), (⟨#[95, 120]⟩ : ByteArray), (⟨#[110, 97, 109, 101]⟩ : ByteArray)] : List ByteArray)) := ⟨_, rfl⟩
 replace H : ((chancellaw5_within.f a0 7).bind fun t244 => (if 0 ≤ t244 then (if t244 < (y241.length : Int) then (some (rdOf ByteArray.empty y241 t244)) else (none)) else (none))) = some r := by first | (rw [hy241]; with_reducible exact H) | (have H2_ := (Option.bind_some _ _).symm.trans H; rw [hy241]; with_reducible exact H2_) | (have H2_ := (Option.bind_some _ _).symm.trans H; with_reducible exact H2_) | with_reducible exact H | (rw [hy241]; exact H) | exact H
 have Ny241 := aZ_ hy241
 clear hy241
 replace H := Option.bind_eq_some_iff.mp H
 obtain ⟨t244, A20, H⟩ := H
 replace H : (if 0 ≤ t244 then (if t244 < (y241.length : Int) then (some (rdOf ByteArray.empty y241 t244)) else (none)) else (none)) = some r := H
 have A2 := aZ_ A20
 clear A20
 by_cases c3 : 0 ≤ t244
 ·
  rw [if_pos c3] at H
  have c3b0 : decide (0 ≤ t244) = true := decide_eq_true c3
  clear c3
  by_cases c4 : t244 < (y241.length : Int)
  ·
   rw [if_pos c4] at H
   have c4b0 : decide (t244 < (y241.length : Int)) = true := decide_eq_true c4
   clear c4
   obtain rfl := Option.some.inj H
   go_enter Tryz.func29, Tryz.ntmps29
   go_wp2_with (first | ((with_reducible refine gate_dst (N := 3) rfl ?_); refine Kd.R_lit Kd.string _ 9 ?hg (N := 3) ?hd (xs := ([(⟨#[97]⟩ : ByteArray), (⟨#[97, 103, 101]⟩ : ByteArray), (⟨#[105, 102]⟩ : ByteArray), (⟨#[99, 111, 110, 116, 97, 105, 110, 115]⟩ : ByteArray), (⟨#[112, 114, 105, 110, 99, 105, 112, 97, 108]⟩ : ByteArray), (⟨#[95, 120]⟩ : ByteArray), (⟨#[110, 97, 109, 101]⟩ : ByteArray)] : List ByteArray)) (inner := [.string (⟨#[97]⟩ : ByteArray), .string (⟨#[97, 103, 101]⟩ : ByteArray), .string (⟨#[105, 102]⟩ : ByteArray), .string (⟨#[99, 111, 110, 116, 97, 105, 110, 115]⟩ : ByteArray), .string (⟨#[112, 114, 105, 110, 99, 105, 112, 97, 108]⟩ : ByteArray), .string (⟨#[95, 120]⟩ : ByteArray), .string (⟨#[110, 97, 109, 101]⟩ : ByteArray)]) (ok := fun _ => True) (okp := fun _ => True) ?hr ?hp (fun _ hk => hk) trivial (Below.refl _ _) (Nat.le_refl _) (by simp) ?_; (case hd => rfl); (case hg => rfl); (case hr => first | (go_simp; done) | (go_simp; rfl)); (case hp => exact (Reps.one (show Kd.M Kd.string _ _ _ (⟨#[97]⟩ : ByteArray) [.string (⟨#[97]⟩ : ByteArray)] from rfl) (Reps.one (show Kd.M Kd.string _ _ _ (⟨#[97, 103, 101]⟩ : ByteArray) [.string (⟨#[97, 103, 101]⟩ : ByteArray)] from rfl) (Reps.one (show Kd.M Kd.string _ _ _ (⟨#[105, 102]⟩ : ByteArray) [.string (⟨#[105, 102]⟩ : ByteArray)] from rfl) (Reps.one (show Kd.M Kd.string _ _ _ (⟨#[99, 111, 110, 116, 97, 105, 110, 115]⟩ : ByteArray) [.string (⟨#[99, 111, 110, 116, 97, 105, 110, 115]⟩ : ByteArray)] from rfl) (Reps.one (show Kd.M Kd.string _ _ _ (⟨#[112, 114, 105, 110, 99, 105, 112, 97, 108]⟩ : ByteArray) [.string (⟨#[112, 114, 105, 110, 99, 105, 112, 97, 108]⟩ : ByteArray)] from rfl) (Reps.one (show Kd.M Kd.string _ _ _ (⟨#[95, 120]⟩ : ByteArray) [.string (⟨#[95, 120]⟩ : ByteArray)] from rfl) (Reps.one (show Kd.M Kd.string _ _ _ (⟨#[110, 97, 109, 101]⟩ : ByteArray) [.string (⟨#[110, 97, 109, 101]⟩ : ByteArray)] from rfl) (Reps.none _ _))))))))); intro v242 w5 ho6 hb hg_ hnew_; clear hg_ hnew_; (first | rw [← Ny241.out] at ho6 | (simp only [Int.reduceToNat] at ho6; rw [← Ny241.out] at ho6)); have HO243 := aZ_ (Kd.R_lower ho6 (below_size (bl HB))); replace HB := aZ_ (below_step (bl HB) hb); clear hb ho6) | ((with_reducible refine gate_callee (f := 24) rfl ?_); refine goesL_ (some 5) rfl rfl Tryz.func24 (by kernel_rfl) rfl #[.int .i64 a0, .int .i64 7] rfl gm_ ?_; (with_reducible refine (chancellaw5_within.calls a0 7 t244 _ A2.out).mono ?_); rintro e w' ⟨rfl, ⟨nd, rfl⟩⟩; refine ⟨_, rfl, ?_⟩; obtain ⟨Ao7, co7, eo7⟩ := Kd.R_slice HO243.out; subst eo7; have p245 : 0 ≤ (t244 : Int) := of_decide_eq_true asm_; have q245 : t244 < (y241.length : Int) := of_decide_eq_true asm_; obtain ⟨ad245, e245, hx245_0⟩ := Kd.at_string (Kd.R_reads' HO243.out).2.2 t244 p245 q245; cases e245; replace p245 := eq_true p245; replace q245 := eq_true q245))
   go_ret
   exact ⟨by first | rfl | (simp [errW_none, errW_some] <;> rfl) | (simp [*, errW_none, errW_some] <;> rfl), bl HB⟩
  ·
   rw [if_neg c4] at H
   exact absurd H (by simp)
 ·
  rw [if_neg c3] at H
  exact absurd H (by simp)

-- NOT PRINTED: function 15 (chancellaw5_Entity)

end Go.Proofs.YtelibndkkokadaaGreat.GB
namespace Go.Proofs.YtelibndkkokadaaGreat.GB
open Go.RowKit Go.Proofs.YtelibndkkokadaaGreatW.PrintWords Go.Proofs.YtelibndkkokadaaGreatW.PrintLast Go.Proofs.YtelibndkkokadaaGreat.HandV Go.Proofs.YtelibndkkokadaaGreatW.PrintMore
attribute [local go_sem] max2_int min2_int max_two min_two max_three min_three max_four min_four   -- for this text's walks alone
set_option linter.unusedVariables false
set_option linter.unusedSimpArgs false

attribute [local go_sem high] eqA28
/-! ### chancelref8_Drop: function 30 -/
def chancelref8_Drop.l0 : Nat → List (S32) → List (S32) → Int → ByteArray → ByteArray → Option ((List (S32)))
 | 0, _, _, _, _, _ => none
 | k + 1, x0, x5, x6, x266000, x266001 => if x6 < (x0.length : Int) then (if 0 ≤ x6 then (if (!((((rd_T32 x0 x6).f0.f0).toList) == x266000.toList) || (!((((rd_T32 x0 x6).f0.f1).toList) == x266001.toList))) = true then (if x5.length < 1759218604441 then (chancelref8_Drop.l0 k x0 (x5 ++ [(⟨(⟨(rd_T32 x0 x6).f0.f0, (rd_T32 x0 x6).f0.f1⟩ : S28), (rd_T32 x0 x6).f1, (rd_T32 x0 x6).f2⟩ : S32)]) (wrap64 (x6 + 1)) x266000 x266001) else (none)) else (chancelref8_Drop.l0 k x0 x5 (wrap64 (x6 + 1)) x266000 x266001)) else (none)) else (some x5)
def chancelref8_Drop.f (k : Nat) (l0 : List (S32)) (a1_0 : ByteArray) (a1_1 : ByteArray) : Option ((List (S32))) := chancelref8_Drop.l0 k l0 ([] : List (S32)) 0 a1_0 a1_1
theorem chancelref8_Drop.mono_l : ∀ k, (∀ y0 y1 y2 y3 y4, LeO (chancelref8_Drop.l0 k y0 y1 y2 y3 y4) (chancelref8_Drop.l0 (k + 1) y0 y1 y2 y3 y4))
 | 0 => fun _ _ _ _ _ r h => by simp [chancelref8_Drop.l0] at h
 | k + 1 => by
  have ih0 := chancelref8_Drop.mono_l k
  ·
   intro y0 y1 y2 y3 y4
   unfold chancelref8_Drop.l0
   repeat' first
   | (with_reducible exact ih0 _ _ _ _ _)
   | (with_reducible exact LeO.refl _)
   | (with_reducible exact LeO.none _)
   | (with_reducible refine LeO.ite ?_ ?_)
   | (with_reducible refine LeO.bind ?_ (fun _ => ?_))
   | exact ih0 _ _ _ _ _
   | exact LeO.none _
   | refine LeO.ite ?_ ?_
   | refine LeO.bind ?_ (fun _ => ?_)
theorem chancelref8_Drop.mono : ∀ a0 a1 a2 k, LeO (chancelref8_Drop.f k a0 a1 a2) (chancelref8_Drop.f (k + 1) a0 a1 a2) := by
 intro a0 a1 a2 k
 have ih0 := chancelref8_Drop.mono_l k
 unfold chancelref8_Drop.f
 repeat' first
   | (with_reducible exact ih0 _ _ _ _ _)
   | (with_reducible exact LeO.refl _)
   | (with_reducible exact LeO.none _)
   | (with_reducible refine LeO.ite ?_ ?_)
   | (with_reducible refine LeO.bind ?_ (fun _ => ?_))
   | exact ih0 _ _ _ _ _
   | exact LeO.none _
   | refine LeO.ite ?_ ?_
   | refine LeO.bind ?_ (fun _ => ?_)
set_option maxHeartbeats 8000000 in
set_option maxRecDepth 100000 in
theorem chancelref8_Drop.calls (k : Nat) (P0_ : Nat → Prop) (A0 : Option Addr) (c0 : Nat) (l0 : List (S32)) (a1_0 : ByteArray) (a1_1 : ByteArray) (r : List (S32)) (w : World) (hs0 : Kd.V k32 32 w w.heap.size (fun k_ => P0_ k_) (.slice A0 l0.length c0) l0) (h : chancelref8_Drop.f k l0 a1_0 a1_1 = some r) :
  Calls Tryz.prog 30 #[.slice A0 l0.length c0, .agg #[.string a1_0, .string a1_1]] w fun e w' => ∃ v0_ : Value, e = .returned (v0_) ∧ Kd.N k32 32 w' w.heap.size (fun k_ => (P0_ k_ ∨ w.heap.size ≤ k_)) v0_ r ∧ Below w.heap.size w w' := by
 have hu28 := Tryz.underlying28
 have hu32 := Tryz.underlying32
 have HO0 := aZ_ (show Kd.V k32 32 w w.heap.size (fun k_ => (P0_ k_ ∨ w.heap.size ≤ k_)) (.slice A0 l0.length c0) l0 from Kd.V_mono hs0 (fun k_ hk => .inl hk))
 have HB := aZ_ (Below.refl w.heap.size w)
 have H : (chancelref8_Drop.l0 k l0 ([] : List (S32)) 0 a1_0 a1_1) = some r := h
 clear h
 have H' := aZ_ H
 clear H
 go_enter Tryz.func30, Tryz.ntmps30
 go_wp2_with (first | ((with_reducible refine gate_dst (N := 3) rfl ?_); refine bxE 3 #[.string a1_0, .string a1_1] 28 ?_; intro gb265 hg w3 hbox hb; replace HO0 := aZ_ (Kd.V_below (Kd.V_elderB (kV HO0) gb265 (Nat.le_of_eq hg.symm)) hb); have BK265 := aZ_ (hbox); have GW265 := aZ_ ((by rw [hg]; exact (below_size (bl HB)) : w.heap.size ≤ gb265)); have GE265 := aZ_ ((by rw [hg]; exact (below_size (bl HB)) : w.heap.size ≤ gb265)); replace HB := aZ_ (below_step (bl HB) hb); clear hb hbox hg))
 repeat (go_quiet (first | ((with_reducible refine gate_dst (N := 3) rfl ?_); refine bxE 3 #[.string a1_0, .string a1_1] 28 ?_; intro gb265 hg w3 hbox hb; replace HO0 := aZ_ (Kd.V_below (Kd.V_elderB (kV HO0) gb265 (Nat.le_of_eq hg.symm)) hb); have BK265 := aZ_ (hbox); have GW265 := aZ_ ((by rw [hg]; exact (below_size (bl HB)) : w.heap.size ≤ gb265)); have GE265 := aZ_ ((by rw [hg]; exact (below_size (bl HB)) : w.heap.size ≤ gb265)); replace HB := aZ_ (below_step (bl HB) hb); clear hb hbox hg)); try go_wp2_with (first | ((with_reducible refine gate_dst (N := 3) rfl ?_); refine bxE 3 #[.string a1_0, .string a1_1] 28 ?_; intro gb265 hg w3 hbox hb; replace HO0 := aZ_ (Kd.V_below (Kd.V_elderB (kV HO0) gb265 (Nat.le_of_eq hg.symm)) hb); have BK265 := aZ_ (hbox); have GW265 := aZ_ ((by rw [hg]; exact (below_size (bl HB)) : w.heap.size ≤ gb265)); have GE265 := aZ_ ((by rw [hg]; exact (below_size (bl HB)) : w.heap.size ≤ gb265)); replace HB := aZ_ (below_step (bl HB) hb); clear hb hbox hg)))
 go_loopg [5, 6] k (fun kq v5 v6 w' => ∃ (x5_1 : List (S32)) (x6_1 : Int), v6 = .int .i64 x6_1 ∧ Aside0 (chancelref8_Drop.l0 kq l0 x5_1 x6_1 a1_0 a1_1 = some r) ∧ Aside0 (kq ≤ k) ∧ Aside0 (Kd.V k32 32 w' w.heap.size (fun k_ => (P0_ k_ ∨ w.heap.size ≤ k_) ∧ some k_ ≠ (v5 : Value).ownBlock ∧ k_ ≠ gb265) (.slice A0 l0.length c0) l0) ∧ Aside0 (Kd.N k32 32 w' w.heap.size (fun k_ => (P0_ k_ ∨ w.heap.size ≤ k_) ∧ k_ ≠ gb265) v5 x5_1) ∧ Aside0 (w'.heap[gb265]? = some (.cells #[.string a1_0, .string a1_1] 28 (0, 0))) ∧ Aside0 (Below w.heap.size w w'))
 case atStart => exact ⟨(([] : List (S32))), (0), rf_, H', ⟨Nat.le_refl _⟩, ⟨by (with_reducible repeat (first | apply Kd.V_alloc | apply Kd.V_drewN | apply Kd.V_drew)); exact Kd.V_mono HO0.out (fun _ hk => ⟨hk.1, ⟨(by simp [Value.ownBlock]), hk.2⟩⟩)⟩, ⟨by first | exact Kd.R_nil _ _ _ _ _ | exact Kd.N_nil _ _ _ _ _ | exact Kd.V_nil _ _ _ _ _ | exact Kd.Q_nil _ _ _ _ _ | exact Kd.S_nil _ _ _ _ _⟩, ⟨bk BK265⟩, ⟨bl1 HB GE265⟩⟩
 case round =>
  clear H'
  try clear p2
  try clear c3
  obtain ⟨x5_1, x6_1, rfl, HA, HK1, HO_0, HO_5, BK265, HB⟩ := hrel
  cases gk with
  | zero => exact absurd HA.out (by simp [chancelref8_Drop.l0])
  | succ k1 =>
   have H := HA.out
   clear HA
   simp only [chancelref8_Drop.l0] at H
   by_cases c4 : x6_1 < (l0.length : Int)
   ·
    rw [if_pos c4] at H
    have c4b0 : decide (x6_1 < (l0.length : Int)) = true := decide_eq_true c4
    clear c4
    by_cases c5 : 0 ≤ x6_1
    ·
     rw [if_pos c5] at H
     have c5b0 : decide (0 ≤ x6_1) = true := decide_eq_true c5
     clear c5
     by_cases c6 : (!((((rd_T32 l0 x6_1).f0.f0).toList) == a1_0.toList) || (!((((rd_T32 l0 x6_1).f0.f1).toList) == a1_1.toList))) = true
     ·
      rw [if_pos c6] at H
      have c6b0 : (!((((rd_T32 l0 x6_1).f0.f0).toList) == a1_0.toList) || (!((((rd_T32 l0 x6_1).f0.f1).toList) == a1_1.toList))) = true := c6
      clear c6
      by_cases c7 : x5_1.length < 1759218604441
      ·
       rw [if_pos c7] at H
       have LMc7 := aZ_ c7
       clear c7
       obtain ⟨y268, hy268⟩ : ∃ y_ : List (S32), y_ = (x5_1 ++ [(⟨(⟨(rd_T32 l0 x6_1).f0.f0, (rd_T32 l0 x6_1).f0.f1⟩ : S28), (rd_T32 l0 x6_1).f1, (rd_T32 l0 x6_1).f2⟩ : S32)]) := ⟨_, rfl⟩
       replace H : (chancelref8_Drop.l0 k1 l0 y268 (wrap64 (x6_1 + 1)) a1_0 a1_1) = some r := by first | (rw [hy268]; with_reducible exact H) | (have H2_ := (Option.bind_some _ _).symm.trans H; rw [hy268]; with_reducible exact H2_) | (have H2_ := (Option.bind_some _ _).symm.trans H; with_reducible exact H2_) | with_reducible exact H | (rw [hy268]; exact H) | exact H
       have Ny268 := aZ_ hy268
       clear hy268
       have H' := aZ_ H
       clear H
       have p266 : 0 ≤ (x6_1 : Int) := of_decide_eq_true asm_
       have q266 : x6_1 < (l0.length : Int) := of_decide_eq_true asm_
       obtain ⟨ad266, A266_2, c266_2, A266_3, c266_3, e266, hx266_0, hx266_1, hx266_2, hx266_3, hl266_2, hi266_2, hl266_3, hi266_3⟩ := at_T32 (Kd.V_reads' HO_0.out).2.2 x6_1 p266 q266
       cases e266
       obtain ⟨ce266, hce266, hMe266, hcc266⟩ := Kd.V_get HO_0.out z32 x6_1 p266 (by first | exact q266 | exact of_decide_eq_true asm_ | (have e_ := (Kd.V_reads' HO_0.out).1; omega))
       obtain ⟨ua266_2, uc266_2, ua266_3, uc266_3, rfl, ul266_2, ge266_2, ul266_3, ge266_3⟩ := k32_openF hMe266
       have hv266_2 := hcc266 2 _ rfl
       rw [add_field _ _ 2 (by omega)] at hv266_2
       replace hv266_2 := Option.some.inj (hv266_2.symm.trans hx266_2)
       injection hv266_2 with hva_ hvn_ hvc_
       rw [hva_] at ge266_2
       rw [hvc_] at ul266_2
       have HL266_2 := aZ_ (show Kd.V k28 28 _ w.heap.size _ _ ((rd_T32 l0 x6_1).f1) from Kd.V_mk ul266_2 ge266_2)
       clear hva_ hvn_ hvc_ ge266_2 ul266_2
       have hv266_3 := hcc266 3 _ rfl
       rw [add_field _ _ 3 (by omega)] at hv266_3
       replace hv266_3 := Option.some.inj (hv266_3.symm.trans hx266_3)
       injection hv266_3 with hva_ hvn_ hvc_
       rw [hva_] at ge266_3
       rw [hvc_] at ul266_3
       have HL266_3 := aZ_ (show Kd.V k67 67 _ w.heap.size _ _ ((rd_T32 l0 x6_1).f2) from Kd.V_mk ul266_3 ge266_3)
       clear hva_ hvn_ hvc_ ge266_3 ul266_3
       clear hcc266 hce266
       have HR266_2 := aZ_ hi266_2
       have HC266_2 := aZ_ hl266_2
       clear hi266_2 hl266_2
       have HR266_3 := aZ_ hi266_3
       have HC266_3 := aZ_ hl266_3
       clear hi266_3 hl266_3
       replace p266 := eq_true p266
       replace q266 := eq_true q266
       obtain ⟨hcz8_0, hcz8_1, hfz8_0, hfz8_1⟩ := bc2 BK265
       have p267 : 0 ≤ (x6_1 : Int) := of_decide_eq_true asm_
       have q267 : x6_1 < (l0.length : Int) := of_decide_eq_true asm_
       obtain ⟨ad267, A267_2, c267_2, A267_3, c267_3, e267, hx267_0, hx267_1, hx267_2, hx267_3, hl267_2, hi267_2, hl267_3, hi267_3⟩ := at_T32 (Kd.V_reads' HO_0.out).2.2 x6_1 p267 q267
       obtain rfl : ad266 = ad267 := (by injection e267)
       obtain ⟨ce267, hce267, hMe267, hcc267⟩ := Kd.V_get HO_0.out z32 x6_1 p267 (by first | exact q267 | exact of_decide_eq_true asm_ | (have e_ := (Kd.V_reads' HO_0.out).1; omega))
       obtain ⟨ua267_2, uc267_2, ua267_3, uc267_3, rfl, ul267_2, ge267_2, ul267_3, ge267_3⟩ := k32_openF hMe267
       have hv267_2 := hcc267 2 _ rfl
       rw [add_field _ _ 2 (by omega)] at hv267_2
       replace hv267_2 := Option.some.inj (hv267_2.symm.trans hx267_2)
       injection hv267_2 with hva_ hvn_ hvc_
       rw [hva_] at ge267_2
       rw [hvc_] at ul267_2
       have HL267_2 := aZ_ (show Kd.V k28 28 _ w.heap.size _ _ ((rd_T32 l0 x6_1).f1) from Kd.V_mk ul267_2 ge267_2)
       clear hva_ hvn_ hvc_ ge267_2 ul267_2
       have hv267_3 := hcc267 3 _ rfl
       rw [add_field _ _ 3 (by omega)] at hv267_3
       replace hv267_3 := Option.some.inj (hv267_3.symm.trans hx267_3)
       injection hv267_3 with hva_ hvn_ hvc_
       rw [hva_] at ge267_3
       rw [hvc_] at ul267_3
       have HL267_3 := aZ_ (show Kd.V k67 67 _ w.heap.size _ _ ((rd_T32 l0 x6_1).f2) from Kd.V_mk ul267_3 ge267_3)
       clear hva_ hvn_ hvc_ ge267_3 ul267_3
       clear hcc267 hce267
       have HR267_2 := aZ_ hi267_2
       have HC267_2 := aZ_ hl267_2
       clear hi267_2 hl267_2
       have HR267_3 := aZ_ hi267_3
       have HC267_3 := aZ_ hl267_3
       clear hi267_3 hl267_3
       replace p267 := eq_true p267
       replace q267 := eq_true q267
       have ea_ := Option.some.inj (hx266_2.symm.trans hx267_2)
       injection ea_ with ea_ en_ ec_
       subst ea_
       subst ec_
       clear en_
       have ea_ := Option.some.inj (hx266_3.symm.trans hx267_3)
       injection ea_ with ea_ en_ ec_
       subst ea_
       subst ec_
       clear en_
       go_wp2_with (first | ((with_reducible refine gate_builtin (b := .append) (xs := #[.tmp 20, .tmp 25]) rfl ?_); at_builtin; refine Kd.N_append k32 (w0 := w) w.heap.size rfl (.tmp 20) (.tmp 25) 25 32 (.agg #[(.string ⟨#[]⟩), (.string ⟨#[]⟩), (.slice none 0 0), (.slice none 0 0)]) 80 rfl Tryz.underlying25 info32 rfl (by decide) (by omega) u5 x5_1 (⟨(⟨(rd_T32 l0 x6_1).f0.f0, (rd_T32 l0 x6_1).f0.f1⟩ : S28), (rd_T32 l0 x6_1).f1, (rd_T32 l0 x6_1).f2⟩ : S32) [.string ((rd_T32 l0 x6_1).f0.f0), .string ((rd_T32 l0 x6_1).f0.f1), .slice A266_2 ((rd_T32 l0 x6_1).f1).length c266_2, .slice A266_3 ((rd_T32 l0 x6_1).f2).length c266_3] (fun k_ => (P0_ k_ ∨ w.heap.size ≤ k_) ∧ k_ ≠ gb265) (fun k_ => ((fun k_ => (P0_ k_ ∨ w.heap.size ≤ k_) ∧ k_ ≠ gb265)) k_ ∧ some k_ ≠ (u5 : Value).ownBlock) rfl rfl ?aP (fun _ hk => hk) ?aF ?aO ?aB ?aS ?aL ?_; (case aP => exact (k32_mkF _ _ (⟨(⟨(rd_T32 l0 x6_1).f0.f0, (rd_T32 l0 x6_1).f0.f1⟩ : S28), (rd_T32 l0 x6_1).f1, (rd_T32 l0 x6_1).f2⟩ : S32) (Kd.V_reads' (Kd.V_mono (ok' := (fun k_ => ((fun k_ => (P0_ k_ ∨ w.heap.size ≤ k_) ∧ k_ ≠ gb265)) k_ ∧ some k_ ≠ (u5 : Value).ownBlock)) (HL267_2.out) (fun k_ hk => ⟨⟨hk.1, hk.2.2⟩, hk.2.1⟩))).2.1 (Kd.V_F (Kd.V_mono (ok' := (fun k_ => ((fun k_ => (P0_ k_ ∨ w.heap.size ≤ k_) ∧ k_ ≠ gb265)) k_ ∧ some k_ ≠ (u5 : Value).ownBlock)) (HL267_2.out) (fun k_ hk => ⟨⟨hk.1, hk.2.2⟩, hk.2.1⟩))) (Kd.V_reads' (Kd.V_mono (ok' := (fun k_ => ((fun k_ => (P0_ k_ ∨ w.heap.size ≤ k_) ∧ k_ ≠ gb265)) k_ ∧ some k_ ≠ (u5 : Value).ownBlock)) (HL267_3.out) (fun k_ hk => ⟨⟨hk.1, hk.2.2⟩, hk.2.1⟩))).2.1 (Kd.V_F (Kd.V_mono (ok' := (fun k_ => ((fun k_ => (P0_ k_ ∨ w.heap.size ≤ k_) ∧ k_ ≠ gb265)) k_ ∧ some k_ ≠ (u5 : Value).ownBlock)) (HL267_3.out) (fun k_ hk => ⟨⟨hk.1, hk.2.2⟩, hk.2.1⟩))))); (case aB => exact (bl1 HB GE265)); (case aF => exact (fun k_ hk => ⟨(.inr (Nat.le_trans (below_size (bl1 HB GE265)) hk)), Kd.freshB (g := gb265) (o := .cells #[.string a1_0, .string a1_1] 28 (0, 0)) (bk BK265) k_ hk⟩)); (case aO => exact (kN HO_5)); (case aS => exact (below_size (bl1 HB GE265))); (case aL => have := LMc7.out; omega); intro v269 w9 ho hb hg hat; rw [← Ny268.out] at ho; replace HO_0 := aZ_ (Kd.V_afterv (ok := (fun k_ => (P0_ k_ ∨ w.heap.size ≤ k_) ∧ k_ ≠ gb265)) (by (with_reducible repeat (first | apply Kd.V_alloc | apply Kd.V_drewN | apply Kd.V_drew)); exact Kd.V_mono HO_0.out (fun _ hk => ⟨⟨hk.1, hk.2.2⟩, hk.2.1⟩)) hg hat); replace BK265 := aZ_ (blk_grown (g := gb265) (o := .cells #[.string a1_0, .string a1_1] 28 (0, 0)) (bk BK265) hg (Kd.N_ne HO_5.out BK265.out (by decide))); replace HL266_2 := aZ_ (Kd.V_afterv (ok := (fun k_ => (P0_ k_ ∨ w.heap.size ≤ k_) ∧ k_ ≠ gb265)) (by (with_reducible repeat (first | apply Kd.V_alloc | apply Kd.V_drewN | apply Kd.V_drew)); exact Kd.V_mono HL266_2.out (fun _ hk => ⟨⟨hk.1, hk.2.2⟩, hk.2.1⟩)) hg hat); replace HL266_3 := aZ_ (Kd.V_afterv (ok := (fun k_ => (P0_ k_ ∨ w.heap.size ≤ k_) ∧ k_ ≠ gb265)) (by (with_reducible repeat (first | apply Kd.V_alloc | apply Kd.V_drewN | apply Kd.V_drew)); exact Kd.V_mono HL266_3.out (fun _ hk => ⟨⟨hk.1, hk.2.2⟩, hk.2.1⟩)) hg hat); replace HL267_2 := aZ_ (Kd.V_afterv (ok := (fun k_ => (P0_ k_ ∨ w.heap.size ≤ k_) ∧ k_ ≠ gb265)) (by (with_reducible repeat (first | apply Kd.V_alloc | apply Kd.V_drewN | apply Kd.V_drew)); exact Kd.V_mono HL267_2.out (fun _ hk => ⟨⟨hk.1, hk.2.2⟩, hk.2.1⟩)) hg hat); replace HL267_3 := aZ_ (Kd.V_afterv (ok := (fun k_ => (P0_ k_ ∨ w.heap.size ≤ k_) ∧ k_ ≠ gb265)) (by (with_reducible repeat (first | apply Kd.V_alloc | apply Kd.V_drewN | apply Kd.V_drew)); exact Kd.V_mono HL267_3.out (fun _ hk => ⟨⟨hk.1, hk.2.2⟩, hk.2.1⟩)) hg hat); replace HB := aZ_ (hb); have HO270 := aZ_ (ho); clear HO_5; clear ho hb hg hat))
       repeat (go_quiet (first | ((with_reducible refine gate_builtin (b := .append) (xs := #[.tmp 20, .tmp 25]) rfl ?_); at_builtin; refine Kd.N_append k32 (w0 := w) w.heap.size rfl (.tmp 20) (.tmp 25) 25 32 (.agg #[(.string ⟨#[]⟩), (.string ⟨#[]⟩), (.slice none 0 0), (.slice none 0 0)]) 80 rfl Tryz.underlying25 info32 rfl (by decide) (by omega) u5 x5_1 (⟨(⟨(rd_T32 l0 x6_1).f0.f0, (rd_T32 l0 x6_1).f0.f1⟩ : S28), (rd_T32 l0 x6_1).f1, (rd_T32 l0 x6_1).f2⟩ : S32) [.string ((rd_T32 l0 x6_1).f0.f0), .string ((rd_T32 l0 x6_1).f0.f1), .slice A266_2 ((rd_T32 l0 x6_1).f1).length c266_2, .slice A266_3 ((rd_T32 l0 x6_1).f2).length c266_3] (fun k_ => (P0_ k_ ∨ w.heap.size ≤ k_) ∧ k_ ≠ gb265) (fun k_ => ((fun k_ => (P0_ k_ ∨ w.heap.size ≤ k_) ∧ k_ ≠ gb265)) k_ ∧ some k_ ≠ (u5 : Value).ownBlock) rfl rfl ?aP (fun _ hk => hk) ?aF ?aO ?aB ?aS ?aL ?_; (case aP => exact (k32_mkF _ _ (⟨(⟨(rd_T32 l0 x6_1).f0.f0, (rd_T32 l0 x6_1).f0.f1⟩ : S28), (rd_T32 l0 x6_1).f1, (rd_T32 l0 x6_1).f2⟩ : S32) (Kd.V_reads' (Kd.V_mono (ok' := (fun k_ => ((fun k_ => (P0_ k_ ∨ w.heap.size ≤ k_) ∧ k_ ≠ gb265)) k_ ∧ some k_ ≠ (u5 : Value).ownBlock)) (HL267_2.out) (fun k_ hk => ⟨⟨hk.1, hk.2.2⟩, hk.2.1⟩))).2.1 (Kd.V_F (Kd.V_mono (ok' := (fun k_ => ((fun k_ => (P0_ k_ ∨ w.heap.size ≤ k_) ∧ k_ ≠ gb265)) k_ ∧ some k_ ≠ (u5 : Value).ownBlock)) (HL267_2.out) (fun k_ hk => ⟨⟨hk.1, hk.2.2⟩, hk.2.1⟩))) (Kd.V_reads' (Kd.V_mono (ok' := (fun k_ => ((fun k_ => (P0_ k_ ∨ w.heap.size ≤ k_) ∧ k_ ≠ gb265)) k_ ∧ some k_ ≠ (u5 : Value).ownBlock)) (HL267_3.out) (fun k_ hk => ⟨⟨hk.1, hk.2.2⟩, hk.2.1⟩))).2.1 (Kd.V_F (Kd.V_mono (ok' := (fun k_ => ((fun k_ => (P0_ k_ ∨ w.heap.size ≤ k_) ∧ k_ ≠ gb265)) k_ ∧ some k_ ≠ (u5 : Value).ownBlock)) (HL267_3.out) (fun k_ hk => ⟨⟨hk.1, hk.2.2⟩, hk.2.1⟩))))); (case aB => exact (bl1 HB GE265)); (case aF => exact (fun k_ hk => ⟨(.inr (Nat.le_trans (below_size (bl1 HB GE265)) hk)), Kd.freshB (g := gb265) (o := .cells #[.string a1_0, .string a1_1] 28 (0, 0)) (bk BK265) k_ hk⟩)); (case aO => exact (kN HO_5)); (case aS => exact (below_size (bl1 HB GE265))); (case aL => have := LMc7.out; omega); intro v269 w9 ho hb hg hat; rw [← Ny268.out] at ho; replace HO_0 := aZ_ (Kd.V_afterv (ok := (fun k_ => (P0_ k_ ∨ w.heap.size ≤ k_) ∧ k_ ≠ gb265)) (by (with_reducible repeat (first | apply Kd.V_alloc | apply Kd.V_drewN | apply Kd.V_drew)); exact Kd.V_mono HO_0.out (fun _ hk => ⟨⟨hk.1, hk.2.2⟩, hk.2.1⟩)) hg hat); replace BK265 := aZ_ (blk_grown (g := gb265) (o := .cells #[.string a1_0, .string a1_1] 28 (0, 0)) (bk BK265) hg (Kd.N_ne HO_5.out BK265.out (by decide))); replace HL266_2 := aZ_ (Kd.V_afterv (ok := (fun k_ => (P0_ k_ ∨ w.heap.size ≤ k_) ∧ k_ ≠ gb265)) (by (with_reducible repeat (first | apply Kd.V_alloc | apply Kd.V_drewN | apply Kd.V_drew)); exact Kd.V_mono HL266_2.out (fun _ hk => ⟨⟨hk.1, hk.2.2⟩, hk.2.1⟩)) hg hat); replace HL266_3 := aZ_ (Kd.V_afterv (ok := (fun k_ => (P0_ k_ ∨ w.heap.size ≤ k_) ∧ k_ ≠ gb265)) (by (with_reducible repeat (first | apply Kd.V_alloc | apply Kd.V_drewN | apply Kd.V_drew)); exact Kd.V_mono HL266_3.out (fun _ hk => ⟨⟨hk.1, hk.2.2⟩, hk.2.1⟩)) hg hat); replace HL267_2 := aZ_ (Kd.V_afterv (ok := (fun k_ => (P0_ k_ ∨ w.heap.size ≤ k_) ∧ k_ ≠ gb265)) (by (with_reducible repeat (first | apply Kd.V_alloc | apply Kd.V_drewN | apply Kd.V_drew)); exact Kd.V_mono HL267_2.out (fun _ hk => ⟨⟨hk.1, hk.2.2⟩, hk.2.1⟩)) hg hat); replace HL267_3 := aZ_ (Kd.V_afterv (ok := (fun k_ => (P0_ k_ ∨ w.heap.size ≤ k_) ∧ k_ ≠ gb265)) (by (with_reducible repeat (first | apply Kd.V_alloc | apply Kd.V_drewN | apply Kd.V_drew)); exact Kd.V_mono HL267_3.out (fun _ hk => ⟨⟨hk.1, hk.2.2⟩, hk.2.1⟩)) hg hat); replace HB := aZ_ (hb); have HO270 := aZ_ (ho); clear HO_5; clear ho hb hg hat)); try go_wp2_with (first | ((with_reducible refine gate_builtin (b := .append) (xs := #[.tmp 20, .tmp 25]) rfl ?_); at_builtin; refine Kd.N_append k32 (w0 := w) w.heap.size rfl (.tmp 20) (.tmp 25) 25 32 (.agg #[(.string ⟨#[]⟩), (.string ⟨#[]⟩), (.slice none 0 0), (.slice none 0 0)]) 80 rfl Tryz.underlying25 info32 rfl (by decide) (by omega) u5 x5_1 (⟨(⟨(rd_T32 l0 x6_1).f0.f0, (rd_T32 l0 x6_1).f0.f1⟩ : S28), (rd_T32 l0 x6_1).f1, (rd_T32 l0 x6_1).f2⟩ : S32) [.string ((rd_T32 l0 x6_1).f0.f0), .string ((rd_T32 l0 x6_1).f0.f1), .slice A266_2 ((rd_T32 l0 x6_1).f1).length c266_2, .slice A266_3 ((rd_T32 l0 x6_1).f2).length c266_3] (fun k_ => (P0_ k_ ∨ w.heap.size ≤ k_) ∧ k_ ≠ gb265) (fun k_ => ((fun k_ => (P0_ k_ ∨ w.heap.size ≤ k_) ∧ k_ ≠ gb265)) k_ ∧ some k_ ≠ (u5 : Value).ownBlock) rfl rfl ?aP (fun _ hk => hk) ?aF ?aO ?aB ?aS ?aL ?_; (case aP => exact (k32_mkF _ _ (⟨(⟨(rd_T32 l0 x6_1).f0.f0, (rd_T32 l0 x6_1).f0.f1⟩ : S28), (rd_T32 l0 x6_1).f1, (rd_T32 l0 x6_1).f2⟩ : S32) (Kd.V_reads' (Kd.V_mono (ok' := (fun k_ => ((fun k_ => (P0_ k_ ∨ w.heap.size ≤ k_) ∧ k_ ≠ gb265)) k_ ∧ some k_ ≠ (u5 : Value).ownBlock)) (HL267_2.out) (fun k_ hk => ⟨⟨hk.1, hk.2.2⟩, hk.2.1⟩))).2.1 (Kd.V_F (Kd.V_mono (ok' := (fun k_ => ((fun k_ => (P0_ k_ ∨ w.heap.size ≤ k_) ∧ k_ ≠ gb265)) k_ ∧ some k_ ≠ (u5 : Value).ownBlock)) (HL267_2.out) (fun k_ hk => ⟨⟨hk.1, hk.2.2⟩, hk.2.1⟩))) (Kd.V_reads' (Kd.V_mono (ok' := (fun k_ => ((fun k_ => (P0_ k_ ∨ w.heap.size ≤ k_) ∧ k_ ≠ gb265)) k_ ∧ some k_ ≠ (u5 : Value).ownBlock)) (HL267_3.out) (fun k_ hk => ⟨⟨hk.1, hk.2.2⟩, hk.2.1⟩))).2.1 (Kd.V_F (Kd.V_mono (ok' := (fun k_ => ((fun k_ => (P0_ k_ ∨ w.heap.size ≤ k_) ∧ k_ ≠ gb265)) k_ ∧ some k_ ≠ (u5 : Value).ownBlock)) (HL267_3.out) (fun k_ hk => ⟨⟨hk.1, hk.2.2⟩, hk.2.1⟩))))); (case aB => exact (bl1 HB GE265)); (case aF => exact (fun k_ hk => ⟨(.inr (Nat.le_trans (below_size (bl1 HB GE265)) hk)), Kd.freshB (g := gb265) (o := .cells #[.string a1_0, .string a1_1] 28 (0, 0)) (bk BK265) k_ hk⟩)); (case aO => exact (kN HO_5)); (case aS => exact (below_size (bl1 HB GE265))); (case aL => have := LMc7.out; omega); intro v269 w9 ho hb hg hat; rw [← Ny268.out] at ho; replace HO_0 := aZ_ (Kd.V_afterv (ok := (fun k_ => (P0_ k_ ∨ w.heap.size ≤ k_) ∧ k_ ≠ gb265)) (by (with_reducible repeat (first | apply Kd.V_alloc | apply Kd.V_drewN | apply Kd.V_drew)); exact Kd.V_mono HO_0.out (fun _ hk => ⟨⟨hk.1, hk.2.2⟩, hk.2.1⟩)) hg hat); replace BK265 := aZ_ (blk_grown (g := gb265) (o := .cells #[.string a1_0, .string a1_1] 28 (0, 0)) (bk BK265) hg (Kd.N_ne HO_5.out BK265.out (by decide))); replace HL266_2 := aZ_ (Kd.V_afterv (ok := (fun k_ => (P0_ k_ ∨ w.heap.size ≤ k_) ∧ k_ ≠ gb265)) (by (with_reducible repeat (first | apply Kd.V_alloc | apply Kd.V_drewN | apply Kd.V_drew)); exact Kd.V_mono HL266_2.out (fun _ hk => ⟨⟨hk.1, hk.2.2⟩, hk.2.1⟩)) hg hat); replace HL266_3 := aZ_ (Kd.V_afterv (ok := (fun k_ => (P0_ k_ ∨ w.heap.size ≤ k_) ∧ k_ ≠ gb265)) (by (with_reducible repeat (first | apply Kd.V_alloc | apply Kd.V_drewN | apply Kd.V_drew)); exact Kd.V_mono HL266_3.out (fun _ hk => ⟨⟨hk.1, hk.2.2⟩, hk.2.1⟩)) hg hat); replace HL267_2 := aZ_ (Kd.V_afterv (ok := (fun k_ => (P0_ k_ ∨ w.heap.size ≤ k_) ∧ k_ ≠ gb265)) (by (with_reducible repeat (first | apply Kd.V_alloc | apply Kd.V_drewN | apply Kd.V_drew)); exact Kd.V_mono HL267_2.out (fun _ hk => ⟨⟨hk.1, hk.2.2⟩, hk.2.1⟩)) hg hat); replace HL267_3 := aZ_ (Kd.V_afterv (ok := (fun k_ => (P0_ k_ ∨ w.heap.size ≤ k_) ∧ k_ ≠ gb265)) (by (with_reducible repeat (first | apply Kd.V_alloc | apply Kd.V_drewN | apply Kd.V_drew)); exact Kd.V_mono HL267_3.out (fun _ hk => ⟨⟨hk.1, hk.2.2⟩, hk.2.1⟩)) hg hat); replace HB := aZ_ (hb); have HO270 := aZ_ (ho); clear HO_5; clear ho hb hg hat)))
       go_roundg k1
       case measure => have := HK1.out; omega
       case rel => exact ⟨(y268), (wrap64 (x6_1 + 1)), rf_, H', ⟨by have := HK1.out; omega⟩, ⟨by (with_reducible repeat (first | apply Kd.V_alloc | apply Kd.V_drewN | apply Kd.V_drew)); exact Kd.V_mono HO_0.out (fun _ hk => by first | exact ⟨hk.1.1, ⟨hk.2, hk.1.2⟩⟩ | (simp only [own_nf] at hk ⊢; exact ⟨hk.1.1, ⟨hk.2, hk.1.2⟩⟩))⟩, ⟨kN HO270⟩, ⟨bk BK265⟩, ⟨bl1 HB GE265⟩⟩
      ·
       rw [if_neg c7] at H
       exact absurd H (by simp)
     ·
      rw [if_neg c6] at H
      have c6b0 : (!((((rd_T32 l0 x6_1).f0.f0).toList) == a1_0.toList) || (!((((rd_T32 l0 x6_1).f0.f1).toList) == a1_1.toList))) = false := by simpa using c6
      clear c6
      have H' := aZ_ H
      clear H
      have p266 : 0 ≤ (x6_1 : Int) := of_decide_eq_true asm_
      have q266 : x6_1 < (l0.length : Int) := of_decide_eq_true asm_
      obtain ⟨ad266, A266_2, c266_2, A266_3, c266_3, e266, hx266_0, hx266_1, hx266_2, hx266_3, hl266_2, hi266_2, hl266_3, hi266_3⟩ := at_T32 (Kd.V_reads' HO_0.out).2.2 x6_1 p266 q266
      cases e266
      obtain ⟨ce266, hce266, hMe266, hcc266⟩ := Kd.V_get HO_0.out z32 x6_1 p266 (by first | exact q266 | exact of_decide_eq_true asm_ | (have e_ := (Kd.V_reads' HO_0.out).1; omega))
      obtain ⟨ua266_2, uc266_2, ua266_3, uc266_3, rfl, ul266_2, ge266_2, ul266_3, ge266_3⟩ := k32_openF hMe266
      have hv266_2 := hcc266 2 _ rfl
      rw [add_field _ _ 2 (by omega)] at hv266_2
      replace hv266_2 := Option.some.inj (hv266_2.symm.trans hx266_2)
      injection hv266_2 with hva_ hvn_ hvc_
      rw [hva_] at ge266_2
      rw [hvc_] at ul266_2
      have HL266_2 := aZ_ (show Kd.V k28 28 _ w.heap.size _ _ ((rd_T32 l0 x6_1).f1) from Kd.V_mk ul266_2 ge266_2)
      clear hva_ hvn_ hvc_ ge266_2 ul266_2
      have hv266_3 := hcc266 3 _ rfl
      rw [add_field _ _ 3 (by omega)] at hv266_3
      replace hv266_3 := Option.some.inj (hv266_3.symm.trans hx266_3)
      injection hv266_3 with hva_ hvn_ hvc_
      rw [hva_] at ge266_3
      rw [hvc_] at ul266_3
      have HL266_3 := aZ_ (show Kd.V k67 67 _ w.heap.size _ _ ((rd_T32 l0 x6_1).f2) from Kd.V_mk ul266_3 ge266_3)
      clear hva_ hvn_ hvc_ ge266_3 ul266_3
      clear hcc266 hce266
      have HR266_2 := aZ_ hi266_2
      have HC266_2 := aZ_ hl266_2
      clear hi266_2 hl266_2
      have HR266_3 := aZ_ hi266_3
      have HC266_3 := aZ_ hl266_3
      clear hi266_3 hl266_3
      replace p266 := eq_true p266
      replace q266 := eq_true q266
      obtain ⟨hcz10_0, hcz10_1, hfz10_0, hfz10_1⟩ := bc2 BK265
      go_wp2
      repeat (go_quiet (fail); try go_wp2)
      go_roundg k1
      case measure => have := HK1.out; omega
      case rel => exact ⟨(x5_1), (wrap64 (x6_1 + 1)), rf_, H', ⟨by have := HK1.out; omega⟩, ⟨kV HO_0⟩, ⟨kN HO_5⟩, ⟨bk BK265⟩, ⟨bl1 HB GE265⟩⟩
    ·
     rw [if_neg c5] at H
     exact absurd H (by simp)
   ·
    rw [if_neg c4] at H
    have c4b0 : decide (x6_1 < (l0.length : Int)) = false := decide_eq_false c4
    clear c4
    obtain rfl := Option.some.inj H
    go_wp2
    repeat (go_quiet (fail); try go_wp2)
    go_ret
    exact ⟨_, by first | rfl | (simp [errW_none, errW_some] <;> rfl) | (simp [*, errW_none, errW_some] <;> rfl), by (with_reducible repeat (first | apply Kd.N_alloc | apply Kd.N_drewN | apply Kd.N_drew)); exact Kd.N_mono HO_5.out (fun _ hk => hk.1), bl1 HB GE265⟩

end Go.Proofs.YtelibndkkokadaaGreat.GB
namespace Go.Proofs.YtelibndkkokadaaGreat.GB
open Go.RowKit Go.Proofs.YtelibndkkokadaaGreatW.PrintWords Go.Proofs.YtelibndkkokadaaGreatW.PrintLast Go.Proofs.YtelibndkkokadaaGreat.HandV Go.Proofs.YtelibndkkokadaaGreatW.PrintMore
attribute [local go_sem] max2_int min2_int max_two min_two max_three min_three max_four min_four   -- for this text's walks alone
set_option linter.unusedVariables false
set_option linter.unusedSimpArgs false

/-! ### chancelref8_Put: function 17 -/
def chancelref8_Put.l0 : Nat → List (S32) → Int → ByteArray → ByteArray → List (S28) → List (S67) → Option ((List (S32)))
 | 0, _, _, _, _, _, _ => none
 | k + 1, x0, x5, x272000, x272001, x272002, x272003 => if x5 < (x0.length : Int) then (if 0 ≤ x5 then ((chancelref3_LessUid.f ((rd_T32 x0 x5).f0.f0) ((rd_T32 x0 x5).f0.f1) x272000 x272001).bind fun t276 => (if t276 = true then (chancelref8_Put.l0 k x0 (wrap64 (x5 + 1)) x272000 x272001 x272002 x272003) else (if x5 ≤ (x0.length : Int) then ((some (x0.take (x5 : Int).toNat : List (S32))).bind fun y277 => (if ([] : List (S32)).length + y277.length < 1759218604441 then ((some (([] : List (S32)) ++ y277 : List (S32))).bind fun y282 => (if y282.length < 1759218604441 then ((some (y282 ++ [(⟨(⟨x272000, x272001⟩ : S28), x272002, x272003⟩ : S32)] : List (S32))).bind fun y285 => ((some (x0.drop (x5 : Int).toNat : List (S32))).bind fun y288 => (if y285.length + y288.length < 1759218604441 then (some (y285 ++ y288)) else (none)))) else (none))) else (none))) else (none)))) else (none)) else (if 0 ≤ x5 then (if x5 ≤ (x0.length : Int) then ((some (x0.take (x5 : Int).toNat : List (S32))).bind fun y296 => (if ([] : List (S32)).length + y296.length < 1759218604441 then ((some (([] : List (S32)) ++ y296 : List (S32))).bind fun y301 => (if y301.length < 1759218604441 then ((some (y301 ++ [(⟨(⟨x272000, x272001⟩ : S28), x272002, x272003⟩ : S32)] : List (S32))).bind fun y304 => ((some (x0.drop (x5 : Int).toNat : List (S32))).bind fun y307 => (if y304.length + y307.length < 1759218604441 then (some (y304 ++ y307)) else (none)))) else (none))) else (none))) else (none)) else (none))
def chancelref8_Put.f (k : Nat) (l0 : List (S32)) (a1_0 : ByteArray) (a1_1 : ByteArray) (l1_2 : List (S28)) (l1_3 : List (S67)) : Option ((List (S32))) := (chancelref8_Drop.f k l0 a1_0 a1_1).bind fun t272 => (chancelref8_Put.l0 k t272 0 a1_0 a1_1 l1_2 l1_3)
theorem chancelref8_Put.mono_l : ∀ k, (∀ y0 y1 y2 y3 y4 y5, LeO (chancelref8_Put.l0 k y0 y1 y2 y3 y4 y5) (chancelref8_Put.l0 (k + 1) y0 y1 y2 y3 y4 y5))
 | 0 => fun _ _ _ _ _ _ r h => by simp [chancelref8_Put.l0] at h
 | k + 1 => by
  have ih0 := chancelref8_Put.mono_l k
  ·
   intro y0 y1 y2 y3 y4 y5
   unfold chancelref8_Put.l0
   repeat' first
   | (with_reducible exact ih0 _ _ _ _ _ _)
   | (with_reducible exact chancelref8_Drop.mono _ _ _ _)
   | (with_reducible exact LeO.refl _)
   | (with_reducible exact LeO.none _)
   | (with_reducible refine LeO.ite ?_ ?_)
   | (with_reducible refine LeO.bind ?_ (fun _ => ?_))
   | exact ih0 _ _ _ _ _ _
   | exact chancelref8_Drop.mono _ _ _ _
   | exact LeO.none _
   | refine LeO.ite ?_ ?_
   | refine LeO.bind ?_ (fun _ => ?_)
theorem chancelref8_Put.mono : ∀ a0 a1 a2 a3 a4 k, LeO (chancelref8_Put.f k a0 a1 a2 a3 a4) (chancelref8_Put.f (k + 1) a0 a1 a2 a3 a4) := by
 intro a0 a1 a2 a3 a4 k
 have ih0 := chancelref8_Put.mono_l k
 unfold chancelref8_Put.f
 repeat' first
   | (with_reducible exact ih0 _ _ _ _ _ _)
   | (with_reducible exact chancelref8_Drop.mono _ _ _ _)
   | (with_reducible exact LeO.refl _)
   | (with_reducible exact LeO.none _)
   | (with_reducible refine LeO.ite ?_ ?_)
   | (with_reducible refine LeO.bind ?_ (fun _ => ?_))
   | exact ih0 _ _ _ _ _ _
   | exact chancelref8_Drop.mono _ _ _ _
   | exact LeO.none _
   | refine LeO.ite ?_ ?_
   | refine LeO.bind ?_ (fun _ => ?_)
def chancelref8_Put.T3 : Bool × List (List Nat × List Nat) := (true, [([], []), ([], []), ([1], [1]), ([0, 2], [0, 2]), ([3], [3]), ([4], [4]), ([4], [4]), ([5, 6, 4], [4, 5, 6]), ([7, 4], [4, 7]), ([8, 4], [4, 8]), ([4], [4]), ([10, 4], [4, 10]), ([9, 11, 4, 4], [4, 9, 11]), ([4, 12], [4, 12])])
def chancelref8_Put.B3 : List Nat := [0, 0, 2, 7, 15, 31, 31, 127, 255, 511, 31, 1055, 4095, 8191]
theorem chancelref8_Put.tab3 : rtab .any (opsOf Tryz.f17 3) = chancelref8_Put.T3 := by kernel_rfl
theorem chancelref8_Put.bits3 : waitsOk chancelref8_Put.T3.2 chancelref8_Put.B3 = true := by kernel_rfl
set_option maxHeartbeats 8000000 in
set_option maxRecDepth 100000 in
theorem chancelref8_Put.calls (k : Nat) (P0_ : Nat → Prop) (A0 : Option Addr) (c0 : Nat) (l0 : List (S32)) (a1_0 : ByteArray) (a1_1 : ByteArray) (P1_2_ : Nat → Prop) (A1_2 : Option Addr) (c1_2 : Nat) (l1_2 : List (S28)) (P1_3_ : Nat → Prop) (A1_3 : Option Addr) (c1_3 : Nat) (l1_3 : List (S67)) (r : List (S32)) (w : World) (hs0 : Kd.V k32 32 w w.heap.size (fun k_ => P0_ k_) (.slice A0 l0.length c0) l0) (hs1_2 : Kd.V k28 28 w w.heap.size (fun k_ => P1_2_ k_) (.slice A1_2 l1_2.length c1_2) l1_2) (hs1_3 : Kd.V k67 67 w w.heap.size (fun k_ => P1_3_ k_) (.slice A1_3 l1_3.length c1_3) l1_3) (h : chancelref8_Put.f k l0 a1_0 a1_1 l1_2 l1_3 = some r) :
  Calls Tryz.prog 17 #[.slice A0 l0.length c0, .agg #[.string a1_0, .string a1_1, .slice A1_2 l1_2.length c1_2, .slice A1_3 l1_3.length c1_3]] w fun e w' => ∃ v0_ : Value, e = .returned (v0_) ∧ Kd.N k32 32 w' w.heap.size (fun k_ => ((P0_ k_ ∨ P1_2_ k_ ∨ P1_3_ k_) ∨ w.heap.size ≤ k_)) v0_ r ∧ Below w.heap.size w w' := by
 have hu32 := Tryz.underlying32
 have hu28 := Tryz.underlying28
 have HO0 := aZ_ (show Kd.V k32 32 w w.heap.size (fun k_ => ((P0_ k_ ∨ P1_2_ k_ ∨ P1_3_ k_) ∨ w.heap.size ≤ k_)) (.slice A0 l0.length c0) l0 from Kd.V_mono hs0 (fun k_ hk => .inl (.inl hk)))
 have HO1_2 := aZ_ (show Kd.V k28 28 w w.heap.size (fun k_ => ((P0_ k_ ∨ P1_2_ k_ ∨ P1_3_ k_) ∨ w.heap.size ≤ k_)) (.slice A1_2 l1_2.length c1_2) l1_2 from Kd.V_mono hs1_2 (fun k_ hk => .inl (.inr (.inl hk))))
 have HO1_3 := aZ_ (show Kd.V k67 67 w w.heap.size (fun k_ => ((P0_ k_ ∨ P1_2_ k_ ∨ P1_3_ k_) ∨ w.heap.size ≤ k_)) (.slice A1_3 l1_3.length c1_3) l1_3 from Kd.V_mono hs1_3 (fun k_ hk => .inl (.inr (.inr hk))))
 have HB := aZ_ (Below.refl w.heap.size w)
 have H : ((chancelref8_Drop.f k l0 a1_0 a1_1).bind fun t272 => (chancelref8_Put.l0 k t272 0 a1_0 a1_1 l1_2 l1_3)) = some r := h
 clear h
 replace H := Option.bind_eq_some_iff.mp H
 obtain ⟨t272, A30, H⟩ := H
 replace H : (chancelref8_Put.l0 k t272 0 a1_0 a1_1 l1_2 l1_3) = some r := H
 have A3 := aZ_ A30
 clear A30
 have H' := aZ_ H
 clear H
 go_enter Tryz.func17, Tryz.ntmps17
 go_wp2_with (first | ((with_reducible refine gate_dst (N := 3) rfl ?_); refine bxE 3 #[.string a1_0, .string a1_1, .slice A1_2 l1_2.length c1_2, .slice A1_3 l1_3.length c1_3] 32 ?_; intro gb271 hg w4 hbox hb; replace HO0 := aZ_ (Kd.V_below (Kd.V_elderB (kV HO0) gb271 (Nat.le_of_eq hg.symm)) hb); replace HO1_2 := aZ_ (Kd.V_below (Kd.V_elderB (kV HO1_2) gb271 (Nat.le_of_eq hg.symm)) hb); replace HO1_3 := aZ_ (Kd.V_below (Kd.V_elderB (kV HO1_3) gb271 (Nat.le_of_eq hg.symm)) hb); have BK271 := aZ_ (hbox); have GW271 := aZ_ ((by rw [hg]; exact (below_size (bl HB)) : w.heap.size ≤ gb271)); have GE271 := aZ_ ((by rw [hg]; exact (below_size (bl HB)) : w.heap.size ≤ gb271)); replace HB := aZ_ (below_step (bl HB) hb); clear hb hbox hg; obtain ⟨hcz5_0, hcz5_1, hcz5_2, hcz5_3, hfz5_0, hfz5_1, hfz5_2, hfz5_3⟩ := bc4 BK271) | ((with_reducible refine gate_callee (f := 30) rfl ?_); refine goesL_ (some 10) rfl rfl Tryz.func30 (by kernel_rfl) rfl #[.slice A0 l0.length c0, .agg #[.string a1_0, .string a1_1]] rfl gm_ ?_; (with_reducible refine (chancelref8_Drop.calls k (fun k_ => (((P0_ k_ ∨ P1_2_ k_ ∨ P1_3_ k_) ∨ w.heap.size ≤ k_) ∧ k_ ≠ gb271)) _ _ l0 a1_0 a1_1 t272 _ ?side1 A3.out).mono ?_); (case side1 => exact HO0.out); rintro e w6 ⟨v273, rfl, ho0, hb⟩; refine ⟨_, rfl, ?_⟩; replace HO0 := aZ_ (Kd.V_elder' (kV HO0) (by first | exact Kd.N_base ho0 | exact Kd.R_base ho0) hb); replace HO1_2 := aZ_ (Kd.V_elder' (kV HO1_2) (by first | exact Kd.N_base ho0 | exact Kd.R_base ho0) hb); replace HO1_3 := aZ_ (Kd.V_elder' (kV HO1_3) (by first | exact Kd.N_base ho0 | exact Kd.R_base ho0) hb); have HO274 := aZ_ (Kd.N_lower (Kd.N_mono (ok' := fun k_ => ((P0_ k_ ∨ P1_2_ k_ ∨ P1_3_ k_) ∨ w.heap.size ≤ k_) ∧ k_ ≠ gb271) ho0 (fun k_ hk_ => ⟨Or.elim hk_ (fun hs_ => hs_.1) (fun hn_ => (.inr (Nat.le_trans (below_size (bl1 HB GE271)) hn_))), Or.elim hk_ (fun hs_ => hs_.2) (fun hn_ => (Kd.freshB (g := gb271) (o := .cells #[.string a1_0, .string a1_1, .slice A1_2 l1_2.length c1_2, .slice A1_3 l1_3.length c1_3] 32 (0, 0)) (bk BK271) k_ hn_))⟩)) (below_size (bl1 HB GE271))); replace BK271 := aZ_ (blk_below (g := gb271) (o := .cells #[.string a1_0, .string a1_1, .slice A1_2 l1_2.length c1_2, .slice A1_3 l1_3.length c1_3] 32 (0, 0)) (bk BK271) hb); replace HB := aZ_ (below_step (bl1 HB GE271) hb); (try clear hb); (try clear hb2); (try clear hk); (try clear hi); (try clear ho0)))
 go_loopg [5] k (fun kq v5 w' => ∃ (x5_1 : Int), v5 = .int .i64 x5_1 ∧ Aside0 (chancelref8_Put.l0 kq t272 x5_1 a1_0 a1_1 l1_2 l1_3 = some r) ∧ Aside0 (kq ≤ k) ∧ Aside0 (Kd.N k32 32 w' w.heap.size (fun k_ => ((P0_ k_ ∨ P1_2_ k_ ∨ P1_3_ k_) ∨ w.heap.size ≤ k_) ∧ k_ ≠ gb271) v273 t272) ∧ Aside0 (Kd.V k28 28 w' w.heap.size (fun k_ => ((P0_ k_ ∨ P1_2_ k_ ∨ P1_3_ k_) ∨ w.heap.size ≤ k_) ∧ some k_ ≠ (v273 : Value).ownBlock ∧ k_ ≠ gb271) (.slice A1_2 l1_2.length c1_2) l1_2) ∧ Aside0 (Kd.V k67 67 w' w.heap.size (fun k_ => ((P0_ k_ ∨ P1_2_ k_ ∨ P1_3_ k_) ∨ w.heap.size ≤ k_) ∧ some k_ ≠ (v273 : Value).ownBlock ∧ k_ ≠ gb271) (.slice A1_3 l1_3.length c1_3) l1_3) ∧ Aside0 (w'.heap[gb271]? = some (.cells #[.string a1_0, .string a1_1, (.slice A1_2 l1_2.length c1_2), (.slice A1_3 l1_3.length c1_3)] 32 (0, 0))) ∧ Aside0 (Below w.heap.size w w'))
 case atStart => exact ⟨(0), rf_, H', ⟨Nat.le_refl _⟩, ⟨kN HO274⟩, ⟨by (with_reducible repeat (first | apply Kd.V_alloc | apply Kd.V_drewN | apply Kd.V_drew)); exact Kd.V_mono HO1_2.out (fun _ hk => by first | exact ⟨hk.1.1, ⟨hk.2, hk.1.2⟩⟩ | (simp only [own_nf] at hk ⊢; exact ⟨hk.1.1, ⟨hk.2, hk.1.2⟩⟩))⟩, ⟨by (with_reducible repeat (first | apply Kd.V_alloc | apply Kd.V_drewN | apply Kd.V_drew)); exact Kd.V_mono HO1_3.out (fun _ hk => by first | exact ⟨hk.1.1, ⟨hk.2, hk.1.2⟩⟩ | (simp only [own_nf] at hk ⊢; exact ⟨hk.1.1, ⟨hk.2, hk.1.2⟩⟩))⟩, ⟨bk BK271⟩, ⟨bl1 HB GE271⟩⟩
 case round =>
  clear H'
  try clear c1
  try clear p2
  try clear c3
  try clear hcz5_0
  try clear hcz5_1
  try clear hcz5_2
  try clear hcz5_3
  try clear hfz5_0
  try clear hfz5_1
  try clear hfz5_2
  try clear hfz5_3
  obtain ⟨x5_1, rfl, HA, HK1, HO_0, HO_272002, HO_272003, BK271, HB⟩ := hrel
  cases gk with
  | zero => exact absurd HA.out (by simp [chancelref8_Put.l0])
  | succ k1 =>
   have H := HA.out
   clear HA
   simp only [chancelref8_Put.l0] at H
   by_cases c7 : x5_1 < (t272.length : Int)
   ·
    rw [if_pos c7] at H
    have c7b0 : decide (x5_1 < (t272.length : Int)) = true := decide_eq_true c7
    clear c7
    by_cases c8 : 0 ≤ x5_1
    ·
     rw [if_pos c8] at H
     have c8b0 : decide (0 ≤ x5_1) = true := decide_eq_true c8
     clear c8
     replace H := Option.bind_eq_some_iff.mp H
     obtain ⟨t276, A90, H⟩ := H
     replace H : (if t276 = true then (chancelref8_Put.l0 k1 t272 (wrap64 (x5_1 + 1)) a1_0 a1_1 l1_2 l1_3) else (if x5_1 ≤ (t272.length : Int) then ((some (t272.take (x5_1 : Int).toNat : List (S32))).bind fun y277 => (if ([] : List (S32)).length + y277.length < 1759218604441 then ((some (([] : List (S32)) ++ y277 : List (S32))).bind fun y282 => (if y282.length < 1759218604441 then ((some (y282 ++ [(⟨(⟨a1_0, a1_1⟩ : S28), l1_2, l1_3⟩ : S32)] : List (S32))).bind fun y285 => ((some (t272.drop (x5_1 : Int).toNat : List (S32))).bind fun y288 => (if y285.length + y288.length < 1759218604441 then (some (y285 ++ y288)) else (none)))) else (none))) else (none))) else (none))) = some r := H
     have A9 := aZ_ A90
     clear A90
     by_cases c10 : t276 = true
     ·
      subst c10
      have H1 : (chancelref8_Put.l0 k1 t272 (wrap64 (x5_1 + 1)) a1_0 a1_1 l1_2 l1_3) = some r := by rw [if_pos rfl] at H; exact H
      clear H
      have H := H1
      clear H1
      have H' := aZ_ H
      clear H
      try go_wp2
      replace HO_0 := aZ_ (Kd.N_drew HO_0.out)
      replace HO_272002 := aZ_ (Kd.V_drew HO_272002.out)
      replace HO_272003 := aZ_ (Kd.V_drew HO_272003.out)
      replace BK271 := aZ_ (blk_drew BK271.out)
      replace HB := aZ_ (below_drew1 HB.out)
      obtain ⟨Ao12, co12, eo12⟩ := Kd.N_slice HO_0.out
      (first | subst eo12 | (injection eo12 with f1_ f2_ f3_; have f4_ := f1_.symm; have f5_ := f3_.symm; clear f1_ f2_ f3_; subst f4_; subst f5_))
      have p275 : 0 ≤ (x5_1 : Int) := of_decide_eq_true asm_
      have q275 : x5_1 < (t272.length : Int) := of_decide_eq_true asm_
      obtain ⟨ad275, A275_2, c275_2, A275_3, c275_3, e275, hx275_0, hx275_1, hx275_2, hx275_3, hl275_2, hi275_2, hl275_3, hi275_3⟩ := at_T32 (Kd.N_reads' HO_0.out).2.2 x5_1 p275 q275
      cases e275
      obtain ⟨ce275, hce275, hMe275, hcc275⟩ := Kd.N_get HO_0.out z32 x5_1 p275 (by first | exact q275 | exact of_decide_eq_true asm_ | (have e_ := (Kd.N_reads' HO_0.out).1; omega))
      obtain ⟨ua275_2, uc275_2, ua275_3, uc275_3, rfl, ul275_2, ge275_2, ul275_3, ge275_3⟩ := k32_openF hMe275
      have hv275_2 := hcc275 2 _ rfl
      rw [add_field _ _ 2 (by omega)] at hv275_2
      replace hv275_2 := Option.some.inj (hv275_2.symm.trans hx275_2)
      injection hv275_2 with hva_ hvn_ hvc_
      rw [hva_] at ge275_2
      rw [hvc_] at ul275_2
      have HL275_2 := aZ_ (show Kd.V k28 28 _ w.heap.size _ _ ((rd_T32 t272 x5_1).f1) from Kd.V_mk ul275_2 ge275_2)
      clear hva_ hvn_ hvc_ ge275_2 ul275_2
      have hv275_3 := hcc275 3 _ rfl
      rw [add_field _ _ 3 (by omega)] at hv275_3
      replace hv275_3 := Option.some.inj (hv275_3.symm.trans hx275_3)
      injection hv275_3 with hva_ hvn_ hvc_
      rw [hva_] at ge275_3
      rw [hvc_] at ul275_3
      have HL275_3 := aZ_ (show Kd.V k67 67 _ w.heap.size _ _ ((rd_T32 t272 x5_1).f2) from Kd.V_mk ul275_3 ge275_3)
      clear hva_ hvn_ hvc_ ge275_3 ul275_3
      clear hcc275 hce275
      have HR275_2 := aZ_ hi275_2
      have HC275_2 := aZ_ hl275_2
      clear hi275_2 hl275_2
      have HR275_3 := aZ_ hi275_3
      have HC275_3 := aZ_ hl275_3
      clear hi275_3 hl275_3
      replace p275 := eq_true p275
      replace q275 := eq_true q275
      refine start_ (n := 14) (S := fun w' => w'.cell? ⟨gb271, 0, none⟩ = some (.string a1_0) ∧ w'.cell? ⟨gb271, 1, none⟩ = some (.string a1_1) ∧ w'.cell? ⟨gb271, 2, none⟩ = some (.slice A1_2 l1_2.length c1_2) ∧ w'.cell? ⟨gb271, 3, none⟩ = some (.slice A1_3 l1_3.length c1_3) ∧ w'.cell? (ad275.add ((x5_1).toNat * 4)) = some (.string ((rd_T32 t272 x5_1).f0.f0)) ∧ w'.cell? ⟨(ad275.add ((x5_1).toNat * 4)).block, (ad275.add ((x5_1).toNat * 4)).off + 1, none⟩ = some (.string ((rd_T32 t272 x5_1).f0.f1)) ∧ w'.cell? ⟨(ad275.add ((x5_1).toNat * 4)).block, (ad275.add ((x5_1).toNat * 4)).off + 2, none⟩ = some (.slice A275_2 ((rd_T32 t272 x5_1).f1).length c275_2) ∧ w'.cell? ⟨(ad275.add ((x5_1).toNat * 4)).block, (ad275.add ((x5_1).toNat * 4)).off + 3, none⟩ = some (.slice A275_3 ((rd_T32 t272 x5_1).f2).length c275_3)) (ds := []) #[false, false, false, false, false, false, false, false, false, false, false, false, false, false] (by kernel_rfl) rfl rfl ⟨(blk_cell BK271.out 0).trans rfl, (blk_cell BK271.out 1).trans rfl, (blk_cell BK271.out 2).trans rfl, (blk_cell BK271.out 3).trans rfl, hx275_0, hx275_1, hx275_2, hx275_3⟩ (fun hHeld => ?_); refine with_tabW chancelref8_Put.tab3 chancelref8_Put.bits3 (fun HT_ HW_ => ?_)
      generalize wr.drew = w11 at HO_0 HO_272002 HO_272003 BK271 HB HL275_2 HL275_3 HR275_2 HR275_3 hx275_0 hx275_1 hx275_2 hx275_3 hHeld ⊢
      refine pS_ 0 11 (fa 14 1) HT_ ?_
      refine pS_ 1 12 (fa 14 3) HT_ ?_
      refine pS_ 2 13 (fa 14 7) HT_ ?_
      refine pS_ 3 14 (fa 14 15) HT_ ?_
      refine pS_ 4 15 (fa 14 31) HT_ ?_
      refine pS_ 5 16 (fa 14 63) HT_ ?_
      refine pS_ 6 17 (fa 14 127) HT_ ?_
      refine pS_ 7 18 (fa 14 255) HT_ ?_
      refine pS_ 8 19 (fa 14 511) HT_ ?_
      refine pS_ 10 21 (fa 14 1535) HT_ ?_
      refine tS_ 9 20 (fa 14 2047) HT_ HW_ hHeld ?_
      refine tS_ 11 22 (fa 14 4095) HT_ HW_ hHeld ?_
      refine one_ (i := 12) (N := some 23) #[true, true, true, true, true, true, true, true, true, true, true, true, true, false] rfl rfl (one_of HT_.out (by kernel_rfl)) (by decide) (fun K hK => ?_)
      refine goes_ Tryz.func16 (by kernel_rfl) rfl #[.agg #[.string ((rd_T32 t272 x5_1).f0.f0), .string ((rd_T32 t272 x5_1).f0.f1)], .agg #[.string a1_0, .string a1_1]] (by rfl) rfl rfl gm_ ?_
      with_reducible refine (chancelref3_LessUid.calls ((rd_T32 t272 x5_1).f0.f0) ((rd_T32 t272 x5_1).f0.f1) a1_0 a1_1 true _ A9.out).mono ?_
      rintro e w13 ⟨rfl, hb⟩
      have HS4_ := (hbc hb (hHeld.2.2.2.2.1) :)
      have HS5_ := (hbc hb (hHeld.2.2.2.2.2.1) :)
      have HS6_ := (hbc hb (hHeld.2.2.2.2.2.2.1) :)
      have HS7_ := (hbc hb (hHeld.2.2.2.2.2.2.2) :)
      refine ⟨_, rfl, ?_⟩
      replace HO_0 := aZ_ (Kd.N_below (kN HO_0) hb)
      replace HO_272002 := aZ_ (Kd.V_below (kV HO_272002) hb)
      replace HO_272003 := aZ_ (Kd.V_below (kV HO_272003) hb)
      replace HL275_2 := aZ_ (Kd.V_below (kV HL275_2) hb)
      replace HL275_3 := aZ_ (Kd.V_below (kV HL275_3) hb)
      replace BK271 := aZ_ (blk_below (g := gb271) (o := .cells #[.string a1_0, .string a1_1, .slice A1_2 l1_2.length c1_2, .slice A1_3 l1_3.length c1_3] 32 (0, 0)) (bk BK271) hb)
      replace HR275_2 := aZ_ (Kd.C_below (kD HR275_2) hb)
      replace HR275_3 := aZ_ (Kd.C_below (kD HR275_3) hb)
      replace HB := aZ_ (below_step (bl1 HB GE271) hb)
      (try clear hb)
      (try clear hb2)
      (try clear hk)
      (try clear hi)
      refine hK.out _ _ ⟨(blk_cell BK271.out 0).trans rfl, (blk_cell BK271.out 1).trans rfl, (blk_cell BK271.out 2).trans rfl, (blk_cell BK271.out 3).trans rfl, HS4_, HS5_, HS6_, HS7_⟩ (fun hHeld => ?_)
      clear hK K
      refine norm_ (a' := ?_) ?_ ?_
      rotate_left
      ·
       show Act.put _ (some 23) _ = _
       simp only [Act.put, List.setIfInBounds_toArray, List.set_cons_zero, List.set_cons_succ, i64_w, i32_w]
       rfl
      refine pS_ 13 24 (fa 14 16383) HT_ ?_
      refine done_ (done_of HT_.out (by kernel_rfl)) ?_
      try go_wp2
      go_roundg k1
      case measure => have := HK1.out; omega
      case rel => exact ⟨(wrap64 (x5_1 + 1)), rf_, H', ⟨by have := HK1.out; omega⟩, ⟨kN HO_0⟩, ⟨kV HO_272002⟩, ⟨kV HO_272003⟩, ⟨bk BK271⟩, ⟨bl1 HB GE271⟩⟩
     ·
      replace c10 := Bool.eq_false_iff.mpr c10
      subst c10
      have H1 : (if x5_1 ≤ (t272.length : Int) then ((some (t272.take (x5_1 : Int).toNat : List (S32))).bind fun y277 => (if ([] : List (S32)).length + y277.length < 1759218604441 then ((some (([] : List (S32)) ++ y277 : List (S32))).bind fun y282 => (if y282.length < 1759218604441 then ((some (y282 ++ [(⟨(⟨a1_0, a1_1⟩ : S28), l1_2, l1_3⟩ : S32)] : List (S32))).bind fun y285 => ((some (t272.drop (x5_1 : Int).toNat : List (S32))).bind fun y288 => (if y285.length + y288.length < 1759218604441 then (some (y285 ++ y288)) else (none)))) else (none))) else (none))) else (none)) = some r := by rw [if_neg (show ¬ (false = true) by decide)] at H; exact H
      clear H
      have H := H1
      clear H1
      have c14b0 := eq_true (of_decide_eq_true asm_ : 0 ≤ x5_1)
      by_cases c15 : x5_1 ≤ (t272.length : Int)
      ·
       rw [if_pos c15] at H
       have c15b0 := eq_true c15
       have c15b1 : decide (x5_1 ≤ (t272.length : Int)) = true := decide_eq_true c15
       clear c15
       obtain ⟨y277, hy277⟩ : ∃ y_ : List (S32), y_ = (t272.take (x5_1 : Int).toNat) := ⟨_, rfl⟩
       replace H : (if ([] : List (S32)).length + y277.length < 1759218604441 then ((some (([] : List (S32)) ++ y277 : List (S32))).bind fun y282 => (if y282.length < 1759218604441 then ((some (y282 ++ [(⟨(⟨a1_0, a1_1⟩ : S28), l1_2, l1_3⟩ : S32)] : List (S32))).bind fun y285 => ((some (t272.drop (x5_1 : Int).toNat : List (S32))).bind fun y288 => (if y285.length + y288.length < 1759218604441 then (some (y285 ++ y288)) else (none)))) else (none))) else (none)) = some r := by first | (rw [hy277]; with_reducible exact H) | (have H2_ := (Option.bind_some _ _).symm.trans H; rw [hy277]; with_reducible exact H2_) | (have H2_ := (Option.bind_some _ _).symm.trans H; with_reducible exact H2_) | with_reducible exact H | (rw [hy277]; exact H) | exact H
       have Ny277 := aZ_ hy277
       clear hy277
       by_cases c16 : ([] : List (S32)).length + y277.length < 1759218604441
       ·
        rw [if_pos c16] at H
        have LMc16 := aZ_ c16
        clear c16
        obtain ⟨y282, hy282⟩ : ∃ y_ : List (S32), y_ = (([] : List (S32)) ++ y277) := ⟨_, rfl⟩
        replace H : (if y282.length < 1759218604441 then ((some (y282 ++ [(⟨(⟨a1_0, a1_1⟩ : S28), l1_2, l1_3⟩ : S32)] : List (S32))).bind fun y285 => ((some (t272.drop (x5_1 : Int).toNat : List (S32))).bind fun y288 => (if y285.length + y288.length < 1759218604441 then (some (y285 ++ y288)) else (none)))) else (none)) = some r := by first | (rw [hy282]; with_reducible exact H) | (have H2_ := (Option.bind_some _ _).symm.trans H; rw [hy282]; with_reducible exact H2_) | (have H2_ := (Option.bind_some _ _).symm.trans H; with_reducible exact H2_) | with_reducible exact H | (rw [hy282]; exact H) | exact H
        have Ny282 := aZ_ hy282
        clear hy282
        by_cases c17 : y282.length < 1759218604441
        ·
         rw [if_pos c17] at H
         have LMc17 := aZ_ c17
         clear c17
         obtain ⟨y285, hy285⟩ : ∃ y_ : List (S32), y_ = (y282 ++ [(⟨(⟨a1_0, a1_1⟩ : S28), l1_2, l1_3⟩ : S32)]) := ⟨_, rfl⟩
         replace H : ((some (t272.drop (x5_1 : Int).toNat : List (S32))).bind fun y288 => (if y285.length + y288.length < 1759218604441 then (some (y285 ++ y288)) else (none))) = some r := by first | (rw [hy285]; with_reducible exact H) | (have H2_ := (Option.bind_some _ _).symm.trans H; rw [hy285]; with_reducible exact H2_) | (have H2_ := (Option.bind_some _ _).symm.trans H; with_reducible exact H2_) | with_reducible exact H | (rw [hy285]; exact H) | exact H
         have Ny285 := aZ_ hy285
         clear hy285
         have c18b0 := eq_true (of_decide_eq_true asm_ : 0 ≤ x5_1)
         have c19b0 := eq_true (of_decide_eq_true asm_ : x5_1 ≤ (t272.length : Int))
         obtain ⟨y288, hy288⟩ : ∃ y_ : List (S32), y_ = (t272.drop (x5_1 : Int).toNat) := ⟨_, rfl⟩
         replace H : (if y285.length + y288.length < 1759218604441 then (some (y285 ++ y288)) else (none)) = some r := by first | (rw [hy288]; with_reducible exact H) | (have H2_ := (Option.bind_some _ _).symm.trans H; rw [hy288]; with_reducible exact H2_) | (have H2_ := (Option.bind_some _ _).symm.trans H; with_reducible exact H2_) | with_reducible exact H | (rw [hy288]; exact H) | exact H
         have Ny288 := aZ_ hy288
         clear hy288
         by_cases c20 : y285.length + y288.length < 1759218604441
         ·
          rw [if_pos c20] at H
          have LMc20 := aZ_ c20
          clear c20
          obtain ⟨y293, hy293⟩ : ∃ y_ : List (S32), y_ = (y285 ++ y288) := ⟨_, rfl⟩
          replace H : (some y293) = some r := by first | (rw [hy293]; with_reducible exact H) | (have H2_ := (Option.bind_some _ _).symm.trans H; rw [hy293]; with_reducible exact H2_) | (have H2_ := (Option.bind_some _ _).symm.trans H; with_reducible exact H2_) | with_reducible exact H | (rw [hy293]; exact H) | exact H
          have Ny293 := aZ_ hy293
          clear hy293
          obtain rfl := Option.some.inj H
          try go_wp2
          replace HO_0 := aZ_ (Kd.N_drew HO_0.out)
          replace HO_272002 := aZ_ (Kd.V_drew HO_272002.out)
          replace HO_272003 := aZ_ (Kd.V_drew HO_272003.out)
          replace BK271 := aZ_ (blk_drew BK271.out)
          replace HB := aZ_ (below_drew1 HB.out)
          obtain ⟨Ao22, co22, eo22⟩ := Kd.N_slice HO_0.out
          (first | subst eo22 | (injection eo22 with f1_ f2_ f3_; have f4_ := f1_.symm; have f5_ := f3_.symm; clear f1_ f2_ f3_; subst f4_; subst f5_))
          have p275 : 0 ≤ (x5_1 : Int) := of_decide_eq_true asm_
          have q275 : x5_1 < (t272.length : Int) := of_decide_eq_true asm_
          obtain ⟨ad275, A275_2, c275_2, A275_3, c275_3, e275, hx275_0, hx275_1, hx275_2, hx275_3, hl275_2, hi275_2, hl275_3, hi275_3⟩ := at_T32 (Kd.N_reads' HO_0.out).2.2 x5_1 p275 q275
          cases e275
          obtain ⟨ce275, hce275, hMe275, hcc275⟩ := Kd.N_get HO_0.out z32 x5_1 p275 (by first | exact q275 | exact of_decide_eq_true asm_ | (have e_ := (Kd.N_reads' HO_0.out).1; omega))
          obtain ⟨ua275_2, uc275_2, ua275_3, uc275_3, rfl, ul275_2, ge275_2, ul275_3, ge275_3⟩ := k32_openF hMe275
          have hv275_2 := hcc275 2 _ rfl
          rw [add_field _ _ 2 (by omega)] at hv275_2
          replace hv275_2 := Option.some.inj (hv275_2.symm.trans hx275_2)
          injection hv275_2 with hva_ hvn_ hvc_
          rw [hva_] at ge275_2
          rw [hvc_] at ul275_2
          have HL275_2 := aZ_ (show Kd.V k28 28 _ w.heap.size _ _ ((rd_T32 t272 x5_1).f1) from Kd.V_mk ul275_2 ge275_2)
          clear hva_ hvn_ hvc_ ge275_2 ul275_2
          have hv275_3 := hcc275 3 _ rfl
          rw [add_field _ _ 3 (by omega)] at hv275_3
          replace hv275_3 := Option.some.inj (hv275_3.symm.trans hx275_3)
          injection hv275_3 with hva_ hvn_ hvc_
          rw [hva_] at ge275_3
          rw [hvc_] at ul275_3
          have HL275_3 := aZ_ (show Kd.V k67 67 _ w.heap.size _ _ ((rd_T32 t272 x5_1).f2) from Kd.V_mk ul275_3 ge275_3)
          clear hva_ hvn_ hvc_ ge275_3 ul275_3
          clear hcc275 hce275
          have HR275_2 := aZ_ hi275_2
          have HC275_2 := aZ_ hl275_2
          clear hi275_2 hl275_2
          have HR275_3 := aZ_ hi275_3
          have HC275_3 := aZ_ hl275_3
          clear hi275_3 hl275_3
          replace p275 := eq_true p275
          replace q275 := eq_true q275
          refine start_ (n := 14) (S := fun w' => w'.cell? ⟨gb271, 0, none⟩ = some (.string a1_0) ∧ w'.cell? ⟨gb271, 1, none⟩ = some (.string a1_1) ∧ w'.cell? ⟨gb271, 2, none⟩ = some (.slice A1_2 l1_2.length c1_2) ∧ w'.cell? ⟨gb271, 3, none⟩ = some (.slice A1_3 l1_3.length c1_3) ∧ w'.cell? (ad275.add ((x5_1).toNat * 4)) = some (.string ((rd_T32 t272 x5_1).f0.f0)) ∧ w'.cell? ⟨(ad275.add ((x5_1).toNat * 4)).block, (ad275.add ((x5_1).toNat * 4)).off + 1, none⟩ = some (.string ((rd_T32 t272 x5_1).f0.f1)) ∧ w'.cell? ⟨(ad275.add ((x5_1).toNat * 4)).block, (ad275.add ((x5_1).toNat * 4)).off + 2, none⟩ = some (.slice A275_2 ((rd_T32 t272 x5_1).f1).length c275_2) ∧ w'.cell? ⟨(ad275.add ((x5_1).toNat * 4)).block, (ad275.add ((x5_1).toNat * 4)).off + 3, none⟩ = some (.slice A275_3 ((rd_T32 t272 x5_1).f2).length c275_3)) (ds := []) #[false, false, false, false, false, false, false, false, false, false, false, false, false, false] (by kernel_rfl) rfl rfl ⟨(blk_cell BK271.out 0).trans rfl, (blk_cell BK271.out 1).trans rfl, (blk_cell BK271.out 2).trans rfl, (blk_cell BK271.out 3).trans rfl, hx275_0, hx275_1, hx275_2, hx275_3⟩ (fun hHeld => ?_); refine with_tabW chancelref8_Put.tab3 chancelref8_Put.bits3 (fun HT_ HW_ => ?_)
          generalize wr.drew = w21 at HO_0 HO_272002 HO_272003 BK271 HB HL275_2 HL275_3 HR275_2 HR275_3 hx275_0 hx275_1 hx275_2 hx275_3 hHeld ⊢
          refine pS_ 0 11 (fa 14 1) HT_ ?_
          refine pS_ 1 12 (fa 14 3) HT_ ?_
          refine pS_ 2 13 (fa 14 7) HT_ ?_
          refine pS_ 3 14 (fa 14 15) HT_ ?_
          refine pS_ 4 15 (fa 14 31) HT_ ?_
          refine pS_ 5 16 (fa 14 63) HT_ ?_
          refine pS_ 6 17 (fa 14 127) HT_ ?_
          refine pS_ 7 18 (fa 14 255) HT_ ?_
          refine pS_ 8 19 (fa 14 511) HT_ ?_
          refine pS_ 10 21 (fa 14 1535) HT_ ?_
          refine tS_ 9 20 (fa 14 2047) HT_ HW_ hHeld ?_
          refine tS_ 11 22 (fa 14 4095) HT_ HW_ hHeld ?_
          refine one_ (i := 12) (N := some 23) #[true, true, true, true, true, true, true, true, true, true, true, true, true, false] rfl rfl (one_of HT_.out (by kernel_rfl)) (by decide) (fun K hK => ?_)
          refine goes_ Tryz.func16 (by kernel_rfl) rfl #[.agg #[.string ((rd_T32 t272 x5_1).f0.f0), .string ((rd_T32 t272 x5_1).f0.f1)], .agg #[.string a1_0, .string a1_1]] (by rfl) rfl rfl gm_ ?_
          with_reducible refine (chancelref3_LessUid.calls ((rd_T32 t272 x5_1).f0.f0) ((rd_T32 t272 x5_1).f0.f1) a1_0 a1_1 false _ A9.out).mono ?_
          rintro e w23 ⟨rfl, hb⟩
          have HS4_ := (hbc hb (hHeld.2.2.2.2.1) :)
          have HS5_ := (hbc hb (hHeld.2.2.2.2.2.1) :)
          have HS6_ := (hbc hb (hHeld.2.2.2.2.2.2.1) :)
          have HS7_ := (hbc hb (hHeld.2.2.2.2.2.2.2) :)
          refine ⟨_, rfl, ?_⟩
          replace HO_0 := aZ_ (Kd.N_below (kN HO_0) hb)
          replace HO_272002 := aZ_ (Kd.V_below (kV HO_272002) hb)
          replace HO_272003 := aZ_ (Kd.V_below (kV HO_272003) hb)
          replace HL275_2 := aZ_ (Kd.V_below (kV HL275_2) hb)
          replace HL275_3 := aZ_ (Kd.V_below (kV HL275_3) hb)
          replace BK271 := aZ_ (blk_below (g := gb271) (o := .cells #[.string a1_0, .string a1_1, .slice A1_2 l1_2.length c1_2, .slice A1_3 l1_3.length c1_3] 32 (0, 0)) (bk BK271) hb)
          replace HR275_2 := aZ_ (Kd.C_below (kD HR275_2) hb)
          replace HR275_3 := aZ_ (Kd.C_below (kD HR275_3) hb)
          replace HB := aZ_ (below_step (bl1 HB GE271) hb)
          (try clear hb)
          (try clear hb2)
          (try clear hk)
          (try clear hi)
          refine hK.out _ _ ⟨(blk_cell BK271.out 0).trans rfl, (blk_cell BK271.out 1).trans rfl, (blk_cell BK271.out 2).trans rfl, (blk_cell BK271.out 3).trans rfl, HS4_, HS5_, HS6_, HS7_⟩ (fun hHeld => ?_)
          clear hK K
          refine norm_ (a' := ?_) ?_ ?_
          rotate_left
          ·
           show Act.put _ (some 23) _ = _
           simp only [Act.put, List.setIfInBounds_toArray, List.set_cons_zero, List.set_cons_succ, i64_w, i32_w]
           rfl
          refine pS_ 13 24 (fa 14 16383) HT_ ?_
          refine done_ (done_of HT_.out (by kernel_rfl)) ?_
          have q24 : (x5_1 : Int) ≤ ((t272.length : Int) : Int) := of_decide_eq_true asm_
          obtain ⟨i024, hi024, _, hsz24, _⟩ := info_parts info32
          have hroom24 : t272.length ≤ co22 := (Kd.N_reads' HO_0.out).2.1
          have hC24 : Kd.F k32 _ _ (some ad275) t272.length t272 := (Kd.V_at (base := w.heap.size) (Kd.N_V HO_0.out)).2.2
          have hcut24 := cut_to (P := Tryz.prog) 25 32 .i64 Tryz.underlying25 hi024 (some ad275) t272.length co22 x5_1 (of_decide_eq_true asm_) q24 hroom24
          have hr24 := Kd.F_take (m := (x5_1 : Int).toNat) hC24 (by omega)
          have hy24 : y277.length = (x5_1 : Int).toNat := (by rw [Ny277.out, List.length_take]; omega)
          rw [← Ny277.out] at hr24
          rw [← hy24] at hcut24
          have HO281 := aZ_ (show Kd.V k32 32 _ w.heap.size _ (.slice (some ad275) y277.length co22) y277 from Kd.V_mk (by omega) hr24)
          have HC281 := aZ_ (show y277.length ≤ co22 from by omega)
          clear hr24 hC24 hroom24 hi024 hsz24
          have KY24 := aZ_ hy24
          clear hy24
          replace q24 := eq_true q24
          try go_wp2_with (first | ((with_reducible refine gate_builtin (b := .append) (xs := #[.tmp 27, .tmp 30]) rfl ?_); at_builtin; refine Kd.N_append_rows k32 (w0 := w) w.heap.size rfl (.tmp 27) (.tmp 30) 25 32 (.agg #[(.string ⟨#[]⟩), (.string ⟨#[]⟩), (.slice none 0 0), (.slice none 0 0)]) 80 rfl Tryz.underlying25 info32 rfl (by decide) (by omega) (.slice none 0 0) ([] : List (S32)) y277 _ _ _ (fun k_ => ((P0_ k_ ∨ P1_2_ k_ ∨ P1_3_ k_) ∨ w.heap.size ≤ k_) ∧ k_ ≠ gb271) (fun k_ => ((fun k_ => ((P0_ k_ ∨ P1_2_ k_ ∨ P1_3_ k_) ∨ w.heap.size ≤ k_) ∧ k_ ≠ gb271)) k_ ∧ some k_ ≠ (.slice none 0 0 : Value).ownBlock) rfl rfl ?aO ?aR (fun _ hk => hk) ?aF ?aB ?aS ?aL ?_; (case aR => exact (by skip; exact Kd.V_F (Kd.V_mono (ok' := (fun k_ => ((fun k_ => ((P0_ k_ ∨ P1_2_ k_ ∨ P1_3_ k_) ∨ w.heap.size ≤ k_) ∧ k_ ≠ gb271)) k_ ∧ some k_ ≠ (.slice none 0 0 : Value).ownBlock)) (HO281.out) (fun k_ hk => ⟨⟨hk.1, hk.2⟩, (by simp [Value.ownBlock])⟩)))); (case aB => exact (bl1 HB GE271)); (case aF => exact (fun k_ hk => ⟨(.inr (Nat.le_trans (below_size (bl1 HB GE271)) hk)), Kd.freshB (g := gb271) (o := .cells #[.string a1_0, .string a1_1, .slice A1_2 l1_2.length c1_2, .slice A1_3 l1_3.length c1_3] 32 (0, 0)) (bk BK271) k_ hk⟩)); (case aO => exact ((Kd.N_nil _ _ _ _ (fun k_ => ((P0_ k_ ∨ P1_2_ k_ ∨ P1_3_ k_) ∨ w.heap.size ≤ k_) ∧ k_ ≠ gb271)))); (case aS => exact (below_size (bl1 HB GE271))); (case aL => have := LMc16.out; omega); intro v283 w25 ho hb hg hat; rw [← Ny282.out] at ho; replace HO_0 := aZ_ (Kd.N_afterv (Kd.N_apart_nil (kN HO_0)) hg hat); replace HO_272002 := aZ_ (Kd.V_afterv (Kd.V_apart_nil (kV HO_272002)) hg hat); replace HO_272003 := aZ_ (Kd.V_afterv (Kd.V_apart_nil (kV HO_272003)) hg hat); replace BK271 := aZ_ (blk_grown (g := gb271) (o := .cells #[.string a1_0, .string a1_1, .slice A1_2 l1_2.length c1_2, .slice A1_3 l1_3.length c1_3] 32 (0, 0)) (bk BK271) hg (by simp [Value.ownBlock])); replace HL275_2 := aZ_ (Kd.V_afterv (Kd.V_apart_nil (kV HL275_2)) hg hat); replace HL275_3 := aZ_ (Kd.V_afterv (Kd.V_apart_nil (kV HL275_3)) hg hat); replace HO281 := aZ_ (Kd.V_afterv (Kd.V_apart_nil (kV HO281)) hg hat); replace HB := aZ_ (hb); have HO284 := aZ_ (ho); clear ho hb hg hat; obtain ⟨hcz26_0, hcz26_1, hcz26_2, hcz26_3, hfz26_0, hfz26_1, hfz26_2, hfz26_3⟩ := bc4 BK271) | ((with_reducible refine gate_builtin (b := .append) (xs := #[.tmp 32, .tmp 34]) rfl ?_); at_builtin; refine Kd.N_append k32 (w0 := w) w.heap.size rfl (.tmp 32) (.tmp 34) 25 32 (.agg #[(.string ⟨#[]⟩), (.string ⟨#[]⟩), (.slice none 0 0), (.slice none 0 0)]) 80 rfl Tryz.underlying25 info32 rfl (by decide) (by omega) v283 y282 (⟨(⟨a1_0, a1_1⟩ : S28), l1_2, l1_3⟩ : S32) [.string a1_0, .string a1_1, .slice A1_2 l1_2.length c1_2, .slice A1_3 l1_3.length c1_3] (fun k_ => ((P0_ k_ ∨ P1_2_ k_ ∨ P1_3_ k_) ∨ w.heap.size ≤ k_) ∧ k_ ≠ gb271) (fun k_ => ((fun k_ => ((P0_ k_ ∨ P1_2_ k_ ∨ P1_3_ k_) ∨ w.heap.size ≤ k_) ∧ k_ ≠ gb271)) k_ ∧ some k_ ≠ (v283 : Value).ownBlock) rfl rfl ?aP (fun _ hk => hk) ?aF ?aO ?aB ?aS ?aL ?_; (case aP => exact (k32_mkF _ _ (⟨(⟨a1_0, a1_1⟩ : S28), l1_2, l1_3⟩ : S32) (Kd.V_reads' (Kd.V_mono (ok' := (fun k_ => ((fun k_ => ((P0_ k_ ∨ P1_2_ k_ ∨ P1_3_ k_) ∨ w.heap.size ≤ k_) ∧ k_ ≠ gb271)) k_ ∧ some k_ ≠ (v283 : Value).ownBlock)) (HO_272002.out) (fun k_ hk => ⟨⟨hk.1.1, hk.1.2.2⟩, hk.2⟩))).2.1 (Kd.V_F (Kd.V_mono (ok' := (fun k_ => ((fun k_ => ((P0_ k_ ∨ P1_2_ k_ ∨ P1_3_ k_) ∨ w.heap.size ≤ k_) ∧ k_ ≠ gb271)) k_ ∧ some k_ ≠ (v283 : Value).ownBlock)) (HO_272002.out) (fun k_ hk => ⟨⟨hk.1.1, hk.1.2.2⟩, hk.2⟩))) (Kd.V_reads' (Kd.V_mono (ok' := (fun k_ => ((fun k_ => ((P0_ k_ ∨ P1_2_ k_ ∨ P1_3_ k_) ∨ w.heap.size ≤ k_) ∧ k_ ≠ gb271)) k_ ∧ some k_ ≠ (v283 : Value).ownBlock)) (HO_272003.out) (fun k_ hk => ⟨⟨hk.1.1, hk.1.2.2⟩, hk.2⟩))).2.1 (Kd.V_F (Kd.V_mono (ok' := (fun k_ => ((fun k_ => ((P0_ k_ ∨ P1_2_ k_ ∨ P1_3_ k_) ∨ w.heap.size ≤ k_) ∧ k_ ≠ gb271)) k_ ∧ some k_ ≠ (v283 : Value).ownBlock)) (HO_272003.out) (fun k_ hk => ⟨⟨hk.1.1, hk.1.2.2⟩, hk.2⟩))))); (case aB => exact (bl1 HB GE271)); (case aF => exact (fun k_ hk => ⟨(.inr (Nat.le_trans (below_size (bl1 HB GE271)) hk)), Kd.freshB (g := gb271) (o := .cells #[.string a1_0, .string a1_1, .slice A1_2 l1_2.length c1_2, .slice A1_3 l1_3.length c1_3] 32 (0, 0)) (bk BK271) k_ hk⟩)); (case aO => exact (kN HO284)); (case aS => exact (below_size (bl1 HB GE271))); (case aL => have := LMc17.out; omega); intro v286 w27 ho hb hg hat; rw [← Ny285.out] at ho; replace HO_0 := aZ_ (Kd.N_afterv (ok := (fun k_ => ((P0_ k_ ∨ P1_2_ k_ ∨ P1_3_ k_) ∨ w.heap.size ≤ k_) ∧ k_ ≠ gb271)) (kN HO_0) hg hat); replace HO_272002 := aZ_ (Kd.V_afterv (ok := (fun k_ => ((P0_ k_ ∨ P1_2_ k_ ∨ P1_3_ k_) ∨ w.heap.size ≤ k_) ∧ some k_ ≠ (.slice (some ad275) t272.length co22 : Value).ownBlock ∧ k_ ≠ gb271)) (kV HO_272002) hg hat); replace HO_272003 := aZ_ (Kd.V_afterv (ok := (fun k_ => ((P0_ k_ ∨ P1_2_ k_ ∨ P1_3_ k_) ∨ w.heap.size ≤ k_) ∧ some k_ ≠ (.slice (some ad275) t272.length co22 : Value).ownBlock ∧ k_ ≠ gb271)) (kV HO_272003) hg hat); replace BK271 := aZ_ (blk_grown (g := gb271) (o := .cells #[.string a1_0, .string a1_1, .slice A1_2 l1_2.length c1_2, .slice A1_3 l1_3.length c1_3] 32 (0, 0)) (bk BK271) hg (Kd.N_away HO284.out (fun _ hk => hk.2))); replace HL275_2 := aZ_ (Kd.V_afterv (ok := (fun k_ => ((P0_ k_ ∨ P1_2_ k_ ∨ P1_3_ k_) ∨ w.heap.size ≤ k_) ∧ some k_ ≠ (.slice (some ad275) t272.length co22 : Value).ownBlock ∧ k_ ≠ gb271)) (by (with_reducible repeat (first | apply Kd.V_alloc | apply Kd.V_drewN | apply Kd.V_drew)); exact Kd.V_mono HL275_2.out (fun _ hk => ⟨⟨hk.1.1.1, ⟨hk.1.2, hk.1.1.2⟩⟩, hk.2⟩)) hg hat); replace HL275_3 := aZ_ (Kd.V_afterv (ok := (fun k_ => ((P0_ k_ ∨ P1_2_ k_ ∨ P1_3_ k_) ∨ w.heap.size ≤ k_) ∧ some k_ ≠ (.slice (some ad275) t272.length co22 : Value).ownBlock ∧ k_ ≠ gb271)) (by (with_reducible repeat (first | apply Kd.V_alloc | apply Kd.V_drewN | apply Kd.V_drew)); exact Kd.V_mono HL275_3.out (fun _ hk => ⟨⟨hk.1.1.1, ⟨hk.1.2, hk.1.1.2⟩⟩, hk.2⟩)) hg hat); replace HO281 := aZ_ (Kd.V_afterv (ok := (fun k_ => ((P0_ k_ ∨ P1_2_ k_ ∨ P1_3_ k_) ∨ w.heap.size ≤ k_) ∧ k_ ≠ gb271)) (kV HO281) hg hat); replace HB := aZ_ (hb); have HO287 := aZ_ (ho); clear HO284; clear ho hb hg hat; have q28 : (x5_1 : Int) ≤ ((t272.length : Int) : Int) := of_decide_eq_true asm_; obtain ⟨i028, hi028, _, hsz28, _⟩ := info_parts info32; have hroom28 : t272.length ≤ co22 := (Kd.N_reads' HO_0.out).2.1; have hC28 : Kd.F k32 _ _ (some ad275) t272.length t272 := (Kd.V_at (base := w.heap.size) (Kd.N_V HO_0.out)).2.2; have q028 : (0 : Int) ≤ (x5_1 : Int) := of_decide_eq_true asm_; have hcut28 := cut_from (P := Tryz.prog) 25 32 .i64 Tryz.underlying25 hi028 4 hsz28 (some ad275) t272.length co22 x5_1 q028 q28; have hr28 := Kd.F_cut (m := (x5_1 : Int).toNat) (c := co22) hC28 (by omega) hroom28; obtain ⟨A28, hA28⟩ : ∃ A1, A1 = (if co22 = (x5_1 : Int).toNat then (some ad275) else ((some ad275) : Option Addr).map (·.add ((x5_1 : Int).toNat * 4))) := ⟨_, rfl⟩; obtain ⟨c28, hc28⟩ : ∃ c1, c1 = co22 - (x5_1 : Int).toNat := ⟨_, rfl⟩; have hy28 : y288.length = t272.length - (x5_1 : Int).toNat := (by rw [Ny288.out, List.length_drop] <;> omega); rw [show (t272).drop (x5_1 : Int).toNat = y288 from Ny288.out.symm] at hr28; replace hr28 : Kd.F k32 _ _ A28 y288.length y288 := (by rw [hA28]; exact hr28); rw [← hy28, ← hA28, ← hc28] at hcut28; have HO292 := aZ_ (show Kd.V k32 32 _ w.heap.size _ (.slice A28 y288.length c28) y288 from Kd.V_mk (by rw [hy28, hc28]; exact Nat.sub_le_sub_right hroom28 _) hr28); have HC292 := aZ_ (show y288.length ≤ c28 from by rw [hy28, hc28]; exact Nat.sub_le_sub_right hroom28 _); clear hr28 hC28 hroom28 hi028 hsz28 hc28; have KY28 := aZ_ hy28; have KA28 := aZ_ hA28; clear hy28 hA28; replace q28 := eq_true q28) | ((with_reducible refine gate_builtin (b := .append) (xs := #[.tmp 36, .tmp 39]) rfl ?_); at_builtin; refine Kd.N_append_rows k32 (w0 := w) w.heap.size rfl (.tmp 36) (.tmp 39) 25 32 (.agg #[(.string ⟨#[]⟩), (.string ⟨#[]⟩), (.slice none 0 0), (.slice none 0 0)]) 80 rfl Tryz.underlying25 info32 rfl (by decide) (by omega) v286 y285 y288 _ _ _ (fun k_ => ((P0_ k_ ∨ P1_2_ k_ ∨ P1_3_ k_) ∨ w.heap.size ≤ k_) ∧ k_ ≠ gb271) (fun k_ => ((fun k_ => ((P0_ k_ ∨ P1_2_ k_ ∨ P1_3_ k_) ∨ w.heap.size ≤ k_) ∧ k_ ≠ gb271)) k_ ∧ some k_ ≠ (v286 : Value).ownBlock) rfl rfl ?aO ?aR (fun _ hk => hk) ?aF ?aB ?aS ?aL ?_; (case aR => exact (by skip; exact Kd.V_F (Kd.V_mono (ok' := (fun k_ => ((fun k_ => ((P0_ k_ ∨ P1_2_ k_ ∨ P1_3_ k_) ∨ w.heap.size ≤ k_) ∧ k_ ≠ gb271)) k_ ∧ some k_ ≠ (v286 : Value).ownBlock)) (HO292.out) (fun k_ hk => ⟨⟨hk.1.1, hk.1.2⟩, hk.2⟩)))); (case aB => exact (bl1 HB GE271)); (case aF => exact (fun k_ hk => ⟨(.inr (Nat.le_trans (below_size (bl1 HB GE271)) hk)), Kd.freshB (g := gb271) (o := .cells #[.string a1_0, .string a1_1, .slice A1_2 l1_2.length c1_2, .slice A1_3 l1_3.length c1_3] 32 (0, 0)) (bk BK271) k_ hk⟩)); (case aO => exact (kN HO287)); (case aS => exact (below_size (bl1 HB GE271))); (case aL => have := LMc20.out; omega); intro v294 w29 ho hb hg hat; rw [← Ny293.out] at ho; replace HO_0 := aZ_ (Kd.N_afterv (ok := (fun k_ => ((P0_ k_ ∨ P1_2_ k_ ∨ P1_3_ k_) ∨ w.heap.size ≤ k_) ∧ k_ ≠ gb271)) (kN HO_0) hg hat); replace HO_272002 := aZ_ (Kd.V_afterv (ok := (fun k_ => ((P0_ k_ ∨ P1_2_ k_ ∨ P1_3_ k_) ∨ w.heap.size ≤ k_) ∧ some k_ ≠ (.slice (some ad275) t272.length co22 : Value).ownBlock ∧ k_ ≠ gb271)) (kV HO_272002) hg hat); replace HO_272003 := aZ_ (Kd.V_afterv (ok := (fun k_ => ((P0_ k_ ∨ P1_2_ k_ ∨ P1_3_ k_) ∨ w.heap.size ≤ k_) ∧ some k_ ≠ (.slice (some ad275) t272.length co22 : Value).ownBlock ∧ k_ ≠ gb271)) (kV HO_272003) hg hat); replace BK271 := aZ_ (blk_grown (g := gb271) (o := .cells #[.string a1_0, .string a1_1, .slice A1_2 l1_2.length c1_2, .slice A1_3 l1_3.length c1_3] 32 (0, 0)) (bk BK271) hg (Kd.N_away HO287.out (fun _ hk => hk.2))); replace HL275_2 := aZ_ (Kd.V_afterv (ok := (fun k_ => ((P0_ k_ ∨ P1_2_ k_ ∨ P1_3_ k_) ∨ w.heap.size ≤ k_) ∧ some k_ ≠ (.slice (some ad275) t272.length co22 : Value).ownBlock ∧ k_ ≠ gb271)) (kV HL275_2) hg hat); replace HL275_3 := aZ_ (Kd.V_afterv (ok := (fun k_ => ((P0_ k_ ∨ P1_2_ k_ ∨ P1_3_ k_) ∨ w.heap.size ≤ k_) ∧ some k_ ≠ (.slice (some ad275) t272.length co22 : Value).ownBlock ∧ k_ ≠ gb271)) (kV HL275_3) hg hat); replace HO281 := aZ_ (Kd.V_afterv (ok := (fun k_ => ((P0_ k_ ∨ P1_2_ k_ ∨ P1_3_ k_) ∨ w.heap.size ≤ k_) ∧ k_ ≠ gb271)) (kV HO281) hg hat); replace HO292 := aZ_ (Kd.V_afterv (ok := (fun k_ => ((P0_ k_ ∨ P1_2_ k_ ∨ P1_3_ k_) ∨ w.heap.size ≤ k_) ∧ k_ ≠ gb271)) (kV HO292) hg hat); replace HB := aZ_ (hb); have HO295 := aZ_ (ho); clear HO287; clear ho hb hg hat))
          go_ret
          exact ⟨_, by first | rfl | (simp [errW_none, errW_some] <;> rfl) | (simp [*, errW_none, errW_some] <;> rfl), by (with_reducible repeat (first | apply Kd.N_alloc | apply Kd.N_drewN | apply Kd.N_drew)); exact Kd.N_mono HO295.out (fun _ hk => hk.1), bl1 HB GE271⟩
         ·
          rw [if_neg c20] at H
          exact absurd H (by simp)
        ·
         rw [if_neg c17] at H
         exact absurd H (by simp)
       ·
        rw [if_neg c16] at H
        exact absurd H (by simp)
      ·
       rw [if_neg c15] at H
       exact absurd H (by simp)
    ·
     rw [if_neg c8] at H
     exact absurd H (by simp)
   ·
    rw [if_neg c7] at H
    have c7b0 : decide (x5_1 < (t272.length : Int)) = false := decide_eq_false c7
    clear c7
    by_cases c30 : 0 ≤ x5_1
    ·
     rw [if_pos c30] at H
     have c30b0 := eq_true c30
     have c30b1 : decide (0 ≤ x5_1) = true := decide_eq_true c30
     clear c30
     by_cases c31 : x5_1 ≤ (t272.length : Int)
     ·
      rw [if_pos c31] at H
      have c31b0 := eq_true c31
      have c31b1 : decide (x5_1 ≤ (t272.length : Int)) = true := decide_eq_true c31
      clear c31
      obtain ⟨y296, hy296⟩ : ∃ y_ : List (S32), y_ = (t272.take (x5_1 : Int).toNat) := ⟨_, rfl⟩
      replace H : (if ([] : List (S32)).length + y296.length < 1759218604441 then ((some (([] : List (S32)) ++ y296 : List (S32))).bind fun y301 => (if y301.length < 1759218604441 then ((some (y301 ++ [(⟨(⟨a1_0, a1_1⟩ : S28), l1_2, l1_3⟩ : S32)] : List (S32))).bind fun y304 => ((some (t272.drop (x5_1 : Int).toNat : List (S32))).bind fun y307 => (if y304.length + y307.length < 1759218604441 then (some (y304 ++ y307)) else (none)))) else (none))) else (none)) = some r := by first | (rw [hy296]; with_reducible exact H) | (have H2_ := (Option.bind_some _ _).symm.trans H; rw [hy296]; with_reducible exact H2_) | (have H2_ := (Option.bind_some _ _).symm.trans H; with_reducible exact H2_) | with_reducible exact H | (rw [hy296]; exact H) | exact H
      have Ny296 := aZ_ hy296
      clear hy296
      by_cases c32 : ([] : List (S32)).length + y296.length < 1759218604441
      ·
       rw [if_pos c32] at H
       have LMc32 := aZ_ c32
       clear c32
       obtain ⟨y301, hy301⟩ : ∃ y_ : List (S32), y_ = (([] : List (S32)) ++ y296) := ⟨_, rfl⟩
       replace H : (if y301.length < 1759218604441 then ((some (y301 ++ [(⟨(⟨a1_0, a1_1⟩ : S28), l1_2, l1_3⟩ : S32)] : List (S32))).bind fun y304 => ((some (t272.drop (x5_1 : Int).toNat : List (S32))).bind fun y307 => (if y304.length + y307.length < 1759218604441 then (some (y304 ++ y307)) else (none)))) else (none)) = some r := by first | (rw [hy301]; with_reducible exact H) | (have H2_ := (Option.bind_some _ _).symm.trans H; rw [hy301]; with_reducible exact H2_) | (have H2_ := (Option.bind_some _ _).symm.trans H; with_reducible exact H2_) | with_reducible exact H | (rw [hy301]; exact H) | exact H
       have Ny301 := aZ_ hy301
       clear hy301
       by_cases c33 : y301.length < 1759218604441
       ·
        rw [if_pos c33] at H
        have LMc33 := aZ_ c33
        clear c33
        obtain ⟨y304, hy304⟩ : ∃ y_ : List (S32), y_ = (y301 ++ [(⟨(⟨a1_0, a1_1⟩ : S28), l1_2, l1_3⟩ : S32)]) := ⟨_, rfl⟩
        replace H : ((some (t272.drop (x5_1 : Int).toNat : List (S32))).bind fun y307 => (if y304.length + y307.length < 1759218604441 then (some (y304 ++ y307)) else (none))) = some r := by first | (rw [hy304]; with_reducible exact H) | (have H2_ := (Option.bind_some _ _).symm.trans H; rw [hy304]; with_reducible exact H2_) | (have H2_ := (Option.bind_some _ _).symm.trans H; with_reducible exact H2_) | with_reducible exact H | (rw [hy304]; exact H) | exact H
        have Ny304 := aZ_ hy304
        clear hy304
        have c34b0 := eq_true (of_decide_eq_true asm_ : 0 ≤ x5_1)
        have c35b0 := eq_true (of_decide_eq_true asm_ : x5_1 ≤ (t272.length : Int))
        obtain ⟨y307, hy307⟩ : ∃ y_ : List (S32), y_ = (t272.drop (x5_1 : Int).toNat) := ⟨_, rfl⟩
        replace H : (if y304.length + y307.length < 1759218604441 then (some (y304 ++ y307)) else (none)) = some r := by first | (rw [hy307]; with_reducible exact H) | (have H2_ := (Option.bind_some _ _).symm.trans H; rw [hy307]; with_reducible exact H2_) | (have H2_ := (Option.bind_some _ _).symm.trans H; with_reducible exact H2_) | with_reducible exact H | (rw [hy307]; exact H) | exact H
        have Ny307 := aZ_ hy307
        clear hy307
        by_cases c36 : y304.length + y307.length < 1759218604441
        ·
         rw [if_pos c36] at H
         have LMc36 := aZ_ c36
         clear c36
         obtain ⟨y312, hy312⟩ : ∃ y_ : List (S32), y_ = (y304 ++ y307) := ⟨_, rfl⟩
         replace H : (some y312) = some r := by first | (rw [hy312]; with_reducible exact H) | (have H2_ := (Option.bind_some _ _).symm.trans H; rw [hy312]; with_reducible exact H2_) | (have H2_ := (Option.bind_some _ _).symm.trans H; with_reducible exact H2_) | with_reducible exact H | (rw [hy312]; exact H) | exact H
         have Ny312 := aZ_ hy312
         clear hy312
         obtain rfl := Option.some.inj H
         try go_wp2
         replace HO_0 := aZ_ (Kd.N_drew HO_0.out)
         replace HO_272002 := aZ_ (Kd.V_drew HO_272002.out)
         replace HO_272003 := aZ_ (Kd.V_drew HO_272003.out)
         replace BK271 := aZ_ (blk_drew BK271.out)
         replace HB := aZ_ (below_drew1 HB.out)
         obtain ⟨Ao38, co38, eo38⟩ := Kd.N_slice HO_0.out
         (first | subst eo38 | (injection eo38 with f1_ f2_ f3_; have f4_ := f1_.symm; have f5_ := f3_.symm; clear f1_ f2_ f3_; subst f4_; subst f5_))
         refine start_ (n := 14) (S := fun w' => True) (ds := []) #[false, false, false, false, false, false, false, false, false, false, false, false, false, false] (by kernel_rfl) rfl rfl trivial (fun hHeld => ?_); refine with_tabW chancelref8_Put.tab3 chancelref8_Put.bits3 (fun HT_ HW_ => ?_)
         generalize wr.drew = w37 at HO_0 HO_272002 HO_272003 BK271 HB hHeld ⊢
         refine pS_ 0 11 (fa 14 1) HT_ ?_
         refine pS_ 1 12 (fa 14 3) HT_ ?_
         refine pS_ 2 13 (fa 14 7) HT_ ?_
         refine pS_ 3 14 (fa 14 15) HT_ ?_
         refine pS_ 4 15 (fa 14 31) HT_ ?_
         refine pU_ 5 16 (fa 14 63) HT_ ?_
         refine pU_ 6 17 (fa 14 127) HT_ ?_
         refine pU_ 7 18 (fa 14 255) HT_ ?_
         refine pU_ 8 19 (fa 14 511) HT_ ?_
         refine pU_ 9 20 (fa 14 1023) HT_ ?_
         refine pU_ 10 21 (fa 14 2047) HT_ ?_
         refine pU_ 11 22 (fa 14 4095) HT_ ?_
         refine pU_ 12 23 (fa 14 8191) HT_ ?_
         refine pS_ 13 24 (fa 14 16383) HT_ ?_
         refine done_ (done_of HT_.out (by kernel_rfl)) ?_
         have q39 : (x5_1 : Int) ≤ ((t272.length : Int) : Int) := of_decide_eq_true asm_
         obtain ⟨i039, hi039, _, hsz39, _⟩ := info_parts info32
         have hroom39 : t272.length ≤ co38 := (Kd.N_reads' HO_0.out).2.1
         have hC39 : Kd.F k32 _ _ Ao38 t272.length t272 := (Kd.V_at (base := w.heap.size) (Kd.N_V HO_0.out)).2.2
         have hcut39 := cut_to (P := Tryz.prog) 25 32 .i64 Tryz.underlying25 hi039 Ao38 t272.length co38 x5_1 (of_decide_eq_true asm_) q39 hroom39
         have hr39 := Kd.F_take (m := (x5_1 : Int).toNat) hC39 (by omega)
         have hy39 : y296.length = (x5_1 : Int).toNat := (by rw [Ny296.out, List.length_take]; omega)
         rw [← Ny296.out] at hr39
         rw [← hy39] at hcut39
         have HO300 := aZ_ (show Kd.V k32 32 _ w.heap.size _ (.slice Ao38 y296.length co38) y296 from Kd.V_mk (by omega) hr39)
         have HC300 := aZ_ (show y296.length ≤ co38 from by omega)
         clear hr39 hC39 hroom39 hi039 hsz39
         have KY39 := aZ_ hy39
         clear hy39
         replace q39 := eq_true q39
         try go_wp2_with (first | ((with_reducible refine gate_builtin (b := .append) (xs := #[.tmp 27, .tmp 30]) rfl ?_); at_builtin; refine Kd.N_append_rows k32 (w0 := w) w.heap.size rfl (.tmp 27) (.tmp 30) 25 32 (.agg #[(.string ⟨#[]⟩), (.string ⟨#[]⟩), (.slice none 0 0), (.slice none 0 0)]) 80 rfl Tryz.underlying25 info32 rfl (by decide) (by omega) (.slice none 0 0) ([] : List (S32)) y296 _ _ _ (fun k_ => ((P0_ k_ ∨ P1_2_ k_ ∨ P1_3_ k_) ∨ w.heap.size ≤ k_) ∧ k_ ≠ gb271) (fun k_ => ((fun k_ => ((P0_ k_ ∨ P1_2_ k_ ∨ P1_3_ k_) ∨ w.heap.size ≤ k_) ∧ k_ ≠ gb271)) k_ ∧ some k_ ≠ (.slice none 0 0 : Value).ownBlock) rfl rfl ?aO ?aR (fun _ hk => hk) ?aF ?aB ?aS ?aL ?_; (case aR => exact (by skip; exact Kd.V_F (Kd.V_mono (ok' := (fun k_ => ((fun k_ => ((P0_ k_ ∨ P1_2_ k_ ∨ P1_3_ k_) ∨ w.heap.size ≤ k_) ∧ k_ ≠ gb271)) k_ ∧ some k_ ≠ (.slice none 0 0 : Value).ownBlock)) (HO300.out) (fun k_ hk => ⟨⟨hk.1, hk.2⟩, (by simp [Value.ownBlock])⟩)))); (case aB => exact (bl1 HB GE271)); (case aF => exact (fun k_ hk => ⟨(.inr (Nat.le_trans (below_size (bl1 HB GE271)) hk)), Kd.freshB (g := gb271) (o := .cells #[.string a1_0, .string a1_1, .slice A1_2 l1_2.length c1_2, .slice A1_3 l1_3.length c1_3] 32 (0, 0)) (bk BK271) k_ hk⟩)); (case aO => exact ((Kd.N_nil _ _ _ _ (fun k_ => ((P0_ k_ ∨ P1_2_ k_ ∨ P1_3_ k_) ∨ w.heap.size ≤ k_) ∧ k_ ≠ gb271)))); (case aS => exact (below_size (bl1 HB GE271))); (case aL => have := LMc32.out; omega); intro v302 w40 ho hb hg hat; rw [← Ny301.out] at ho; replace HO_0 := aZ_ (Kd.N_afterv (Kd.N_apart_nil (kN HO_0)) hg hat); replace HO_272002 := aZ_ (Kd.V_afterv (Kd.V_apart_nil (kV HO_272002)) hg hat); replace HO_272003 := aZ_ (Kd.V_afterv (Kd.V_apart_nil (kV HO_272003)) hg hat); replace BK271 := aZ_ (blk_grown (g := gb271) (o := .cells #[.string a1_0, .string a1_1, .slice A1_2 l1_2.length c1_2, .slice A1_3 l1_3.length c1_3] 32 (0, 0)) (bk BK271) hg (by simp [Value.ownBlock])); replace HO300 := aZ_ (Kd.V_afterv (Kd.V_apart_nil (kV HO300)) hg hat); replace HB := aZ_ (hb); have HO303 := aZ_ (ho); clear ho hb hg hat; obtain ⟨hcz41_0, hcz41_1, hcz41_2, hcz41_3, hfz41_0, hfz41_1, hfz41_2, hfz41_3⟩ := bc4 BK271) | ((with_reducible refine gate_builtin (b := .append) (xs := #[.tmp 32, .tmp 34]) rfl ?_); at_builtin; refine Kd.N_append k32 (w0 := w) w.heap.size rfl (.tmp 32) (.tmp 34) 25 32 (.agg #[(.string ⟨#[]⟩), (.string ⟨#[]⟩), (.slice none 0 0), (.slice none 0 0)]) 80 rfl Tryz.underlying25 info32 rfl (by decide) (by omega) v302 y301 (⟨(⟨a1_0, a1_1⟩ : S28), l1_2, l1_3⟩ : S32) [.string a1_0, .string a1_1, .slice A1_2 l1_2.length c1_2, .slice A1_3 l1_3.length c1_3] (fun k_ => ((P0_ k_ ∨ P1_2_ k_ ∨ P1_3_ k_) ∨ w.heap.size ≤ k_) ∧ k_ ≠ gb271) (fun k_ => ((fun k_ => ((P0_ k_ ∨ P1_2_ k_ ∨ P1_3_ k_) ∨ w.heap.size ≤ k_) ∧ k_ ≠ gb271)) k_ ∧ some k_ ≠ (v302 : Value).ownBlock) rfl rfl ?aP (fun _ hk => hk) ?aF ?aO ?aB ?aS ?aL ?_; (case aP => exact (k32_mkF _ _ (⟨(⟨a1_0, a1_1⟩ : S28), l1_2, l1_3⟩ : S32) (Kd.V_reads' (Kd.V_mono (ok' := (fun k_ => ((fun k_ => ((P0_ k_ ∨ P1_2_ k_ ∨ P1_3_ k_) ∨ w.heap.size ≤ k_) ∧ k_ ≠ gb271)) k_ ∧ some k_ ≠ (v302 : Value).ownBlock)) (HO_272002.out) (fun k_ hk => ⟨⟨hk.1.1, hk.1.2.2⟩, hk.2⟩))).2.1 (Kd.V_F (Kd.V_mono (ok' := (fun k_ => ((fun k_ => ((P0_ k_ ∨ P1_2_ k_ ∨ P1_3_ k_) ∨ w.heap.size ≤ k_) ∧ k_ ≠ gb271)) k_ ∧ some k_ ≠ (v302 : Value).ownBlock)) (HO_272002.out) (fun k_ hk => ⟨⟨hk.1.1, hk.1.2.2⟩, hk.2⟩))) (Kd.V_reads' (Kd.V_mono (ok' := (fun k_ => ((fun k_ => ((P0_ k_ ∨ P1_2_ k_ ∨ P1_3_ k_) ∨ w.heap.size ≤ k_) ∧ k_ ≠ gb271)) k_ ∧ some k_ ≠ (v302 : Value).ownBlock)) (HO_272003.out) (fun k_ hk => ⟨⟨hk.1.1, hk.1.2.2⟩, hk.2⟩))).2.1 (Kd.V_F (Kd.V_mono (ok' := (fun k_ => ((fun k_ => ((P0_ k_ ∨ P1_2_ k_ ∨ P1_3_ k_) ∨ w.heap.size ≤ k_) ∧ k_ ≠ gb271)) k_ ∧ some k_ ≠ (v302 : Value).ownBlock)) (HO_272003.out) (fun k_ hk => ⟨⟨hk.1.1, hk.1.2.2⟩, hk.2⟩))))); (case aB => exact (bl1 HB GE271)); (case aF => exact (fun k_ hk => ⟨(.inr (Nat.le_trans (below_size (bl1 HB GE271)) hk)), Kd.freshB (g := gb271) (o := .cells #[.string a1_0, .string a1_1, .slice A1_2 l1_2.length c1_2, .slice A1_3 l1_3.length c1_3] 32 (0, 0)) (bk BK271) k_ hk⟩)); (case aO => exact (kN HO303)); (case aS => exact (below_size (bl1 HB GE271))); (case aL => have := LMc33.out; omega); intro v305 w42 ho hb hg hat; rw [← Ny304.out] at ho; replace HO_0 := aZ_ (Kd.N_afterv (ok := (fun k_ => ((P0_ k_ ∨ P1_2_ k_ ∨ P1_3_ k_) ∨ w.heap.size ≤ k_) ∧ k_ ≠ gb271)) (kN HO_0) hg hat); replace HO_272002 := aZ_ (Kd.V_afterv (ok := (fun k_ => ((P0_ k_ ∨ P1_2_ k_ ∨ P1_3_ k_) ∨ w.heap.size ≤ k_) ∧ some k_ ≠ (.slice Ao38 t272.length co38 : Value).ownBlock ∧ k_ ≠ gb271)) (kV HO_272002) hg hat); replace HO_272003 := aZ_ (Kd.V_afterv (ok := (fun k_ => ((P0_ k_ ∨ P1_2_ k_ ∨ P1_3_ k_) ∨ w.heap.size ≤ k_) ∧ some k_ ≠ (.slice Ao38 t272.length co38 : Value).ownBlock ∧ k_ ≠ gb271)) (kV HO_272003) hg hat); replace BK271 := aZ_ (blk_grown (g := gb271) (o := .cells #[.string a1_0, .string a1_1, .slice A1_2 l1_2.length c1_2, .slice A1_3 l1_3.length c1_3] 32 (0, 0)) (bk BK271) hg (Kd.N_away HO303.out (fun _ hk => hk.2))); replace HO300 := aZ_ (Kd.V_afterv (ok := (fun k_ => ((P0_ k_ ∨ P1_2_ k_ ∨ P1_3_ k_) ∨ w.heap.size ≤ k_) ∧ k_ ≠ gb271)) (kV HO300) hg hat); replace HB := aZ_ (hb); have HO306 := aZ_ (ho); clear HO303; clear ho hb hg hat; have q43 : (x5_1 : Int) ≤ ((t272.length : Int) : Int) := of_decide_eq_true asm_; obtain ⟨i043, hi043, _, hsz43, _⟩ := info_parts info32; have hroom43 : t272.length ≤ co38 := (Kd.N_reads' HO_0.out).2.1; have hC43 : Kd.F k32 _ _ Ao38 t272.length t272 := (Kd.V_at (base := w.heap.size) (Kd.N_V HO_0.out)).2.2; have q043 : (0 : Int) ≤ (x5_1 : Int) := of_decide_eq_true asm_; have hcut43 := cut_from (P := Tryz.prog) 25 32 .i64 Tryz.underlying25 hi043 4 hsz43 Ao38 t272.length co38 x5_1 q043 q43; have hr43 := Kd.F_cut (m := (x5_1 : Int).toNat) (c := co38) hC43 (by omega) hroom43; obtain ⟨A43, hA43⟩ : ∃ A1, A1 = (if co38 = (x5_1 : Int).toNat then Ao38 else (Ao38 : Option Addr).map (·.add ((x5_1 : Int).toNat * 4))) := ⟨_, rfl⟩; obtain ⟨c43, hc43⟩ : ∃ c1, c1 = co38 - (x5_1 : Int).toNat := ⟨_, rfl⟩; have hy43 : y307.length = t272.length - (x5_1 : Int).toNat := (by rw [Ny307.out, List.length_drop] <;> omega); rw [show (t272).drop (x5_1 : Int).toNat = y307 from Ny307.out.symm] at hr43; replace hr43 : Kd.F k32 _ _ A43 y307.length y307 := (by rw [hA43]; exact hr43); rw [← hy43, ← hA43, ← hc43] at hcut43; have HO311 := aZ_ (show Kd.V k32 32 _ w.heap.size _ (.slice A43 y307.length c43) y307 from Kd.V_mk (by rw [hy43, hc43]; exact Nat.sub_le_sub_right hroom43 _) hr43); have HC311 := aZ_ (show y307.length ≤ c43 from by rw [hy43, hc43]; exact Nat.sub_le_sub_right hroom43 _); clear hr43 hC43 hroom43 hi043 hsz43 hc43; have KY43 := aZ_ hy43; have KA43 := aZ_ hA43; clear hy43 hA43; replace q43 := eq_true q43) | ((with_reducible refine gate_builtin (b := .append) (xs := #[.tmp 36, .tmp 39]) rfl ?_); at_builtin; refine Kd.N_append_rows k32 (w0 := w) w.heap.size rfl (.tmp 36) (.tmp 39) 25 32 (.agg #[(.string ⟨#[]⟩), (.string ⟨#[]⟩), (.slice none 0 0), (.slice none 0 0)]) 80 rfl Tryz.underlying25 info32 rfl (by decide) (by omega) v305 y304 y307 _ _ _ (fun k_ => ((P0_ k_ ∨ P1_2_ k_ ∨ P1_3_ k_) ∨ w.heap.size ≤ k_) ∧ k_ ≠ gb271) (fun k_ => ((fun k_ => ((P0_ k_ ∨ P1_2_ k_ ∨ P1_3_ k_) ∨ w.heap.size ≤ k_) ∧ k_ ≠ gb271)) k_ ∧ some k_ ≠ (v305 : Value).ownBlock) rfl rfl ?aO ?aR (fun _ hk => hk) ?aF ?aB ?aS ?aL ?_; (case aR => exact (by skip; exact Kd.V_F (Kd.V_mono (ok' := (fun k_ => ((fun k_ => ((P0_ k_ ∨ P1_2_ k_ ∨ P1_3_ k_) ∨ w.heap.size ≤ k_) ∧ k_ ≠ gb271)) k_ ∧ some k_ ≠ (v305 : Value).ownBlock)) (HO311.out) (fun k_ hk => ⟨⟨hk.1.1, hk.1.2⟩, hk.2⟩)))); (case aB => exact (bl1 HB GE271)); (case aF => exact (fun k_ hk => ⟨(.inr (Nat.le_trans (below_size (bl1 HB GE271)) hk)), Kd.freshB (g := gb271) (o := .cells #[.string a1_0, .string a1_1, .slice A1_2 l1_2.length c1_2, .slice A1_3 l1_3.length c1_3] 32 (0, 0)) (bk BK271) k_ hk⟩)); (case aO => exact (kN HO306)); (case aS => exact (below_size (bl1 HB GE271))); (case aL => have := LMc36.out; omega); intro v313 w44 ho hb hg hat; rw [← Ny312.out] at ho; replace HO_0 := aZ_ (Kd.N_afterv (ok := (fun k_ => ((P0_ k_ ∨ P1_2_ k_ ∨ P1_3_ k_) ∨ w.heap.size ≤ k_) ∧ k_ ≠ gb271)) (kN HO_0) hg hat); replace HO_272002 := aZ_ (Kd.V_afterv (ok := (fun k_ => ((P0_ k_ ∨ P1_2_ k_ ∨ P1_3_ k_) ∨ w.heap.size ≤ k_) ∧ some k_ ≠ (.slice Ao38 t272.length co38 : Value).ownBlock ∧ k_ ≠ gb271)) (kV HO_272002) hg hat); replace HO_272003 := aZ_ (Kd.V_afterv (ok := (fun k_ => ((P0_ k_ ∨ P1_2_ k_ ∨ P1_3_ k_) ∨ w.heap.size ≤ k_) ∧ some k_ ≠ (.slice Ao38 t272.length co38 : Value).ownBlock ∧ k_ ≠ gb271)) (kV HO_272003) hg hat); replace BK271 := aZ_ (blk_grown (g := gb271) (o := .cells #[.string a1_0, .string a1_1, .slice A1_2 l1_2.length c1_2, .slice A1_3 l1_3.length c1_3] 32 (0, 0)) (bk BK271) hg (Kd.N_away HO306.out (fun _ hk => hk.2))); replace HO300 := aZ_ (Kd.V_afterv (ok := (fun k_ => ((P0_ k_ ∨ P1_2_ k_ ∨ P1_3_ k_) ∨ w.heap.size ≤ k_) ∧ k_ ≠ gb271)) (kV HO300) hg hat); replace HO311 := aZ_ (Kd.V_afterv (ok := (fun k_ => ((P0_ k_ ∨ P1_2_ k_ ∨ P1_3_ k_) ∨ w.heap.size ≤ k_) ∧ k_ ≠ gb271)) (kV HO311) hg hat); replace HB := aZ_ (hb); have HO314 := aZ_ (ho); clear HO306; clear ho hb hg hat))
         go_ret
         exact ⟨_, by first | rfl | (simp [errW_none, errW_some] <;> rfl) | (simp [*, errW_none, errW_some] <;> rfl), by (with_reducible repeat (first | apply Kd.N_alloc | apply Kd.N_drewN | apply Kd.N_drew)); exact Kd.N_mono HO314.out (fun _ hk => hk.1), bl1 HB GE271⟩
        ·
         rw [if_neg c36] at H
         exact absurd H (by simp)
       ·
        rw [if_neg c33] at H
        exact absurd H (by simp)
      ·
       rw [if_neg c32] at H
       exact absurd H (by simp)
     ·
      rw [if_neg c31] at H
      exact absurd H (by simp)
    ·
     rw [if_neg c30] at H
     exact absurd H (by simp)

-- NOT PRINTED: function 6 (chancellaw8_Good)

/-! ### chancellaw13_within: function 7 -/
def chancellaw13_within.f (a0 : Int) (a1 : Int) : Option (Int) := if a1 = 0 then (none) else (if (Int.tmod a0 a1) < 0 then (some (wrap64 ((Int.tmod a0 a1) + a1))) else (some (Int.tmod a0 a1)))
set_option maxHeartbeats 8000000 in
set_option maxRecDepth 100000 in
theorem chancellaw13_within.calls (a0 : Int) (a1 : Int) (r : Int) (w : World) (h : chancellaw13_within.f a0 a1 = some r) :
  Calls Tryz.prog 7 #[.int .i64 a0, .int .i64 a1] w fun e w' => e = .returned (.int .i64 r) ∧ Drawn0 w w' := by
 have H : (if a1 = 0 then (none) else (if (Int.tmod a0 a1) < 0 then (some (wrap64 ((Int.tmod a0 a1) + a1))) else (some (Int.tmod a0 a1)))) = some r := h
 clear h
 by_cases c3 : a1 = 0
 ·
  rw [if_pos c3] at H
  exact absurd H (by simp)
 ·
  rw [if_neg c3] at H
  have c3b0 : (a1 == 0) = false := beq_eq_false_iff_ne.mpr c3
  have c3b1 : (a1 != 0) = true := bne_iff_ne.mpr c3
  by_cases c4 : (Int.tmod a0 a1) < 0
  ·
   rw [if_pos c4] at H
   have c4b0 : decide ((Int.tmod a0 a1) < 0) = true := decide_eq_true c4
   clear c4
   obtain rfl := Option.some.inj H
   go_enter Tryz.func7, Tryz.ntmps7
   go_wp2
   go_ret
   exact ⟨by first | rfl | (simp; done) | (simp [*]; done), by repeat (first | exact Drawn0.refl _ | apply Drawn0.step)⟩
  ·
   rw [if_neg c4] at H
   have c4b0 : decide ((Int.tmod a0 a1) < 0) = false := decide_eq_false c4
   clear c4
   obtain rfl := Option.some.inj H
   go_enter Tryz.func7, Tryz.ntmps7
   go_wp2
   go_ret
   exact ⟨by first | rfl | (simp; done) | (simp [*]; done), by repeat (first | exact Drawn0.refl _ | apply Drawn0.step)⟩

end Go.Proofs.YtelibndkkokadaaGreat.GB
