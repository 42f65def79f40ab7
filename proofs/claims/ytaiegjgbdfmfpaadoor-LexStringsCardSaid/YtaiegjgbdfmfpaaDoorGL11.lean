-- Written by wip/tools/gprint.py over the kit's printer.
import Derived.Test.YtaiegjgbdfmfpaaDoorGL0
import Derived.Test.YtaiegjgbdfmfpaaDoorGL6
import Derived.Test.YtaiegjgbdfmfpaaDoorGL10
namespace Go.Proofs.YtaiegjgbdfmfpaaDoor.GL
open Go.RowKit Go.Proofs.YtaiegjgbdfmfpaaDoorW.PrintWords Go.Proofs.YtaiegjgbdfmfpaaDoorW.PrintLast Go.Proofs.YtaiegjgbdfmfpaaDoor.HandL Go.Proofs.YtaiegjgbdfmfpaaDoorW.PrintMore
attribute [local go_sem] max2_int min2_int max_two min_two max_three min_three max_four min_four   -- for this text's walks alone
set_option linter.unusedVariables false
set_option linter.unusedSimpArgs false

/-! ### chancelref1_escape: function 46 -/
mutual
def chancelref1_escape.j0 : Nat → ByteArray → Int → Int → Bool → Option (Int × Int × Int)
  | 0, _, _, _, _ => none
  | k + 1, x0, x1, x17, x18 => if x18 = true then (if 0 ≤ (wrap64 (x1 + 1)) then (if (wrap64 (x1 + 1)) < (x0.size : Int) then (some (wrap32 (bt x0 (wrap64 (x1 + 1))), 2, 0)) else (none)) else (none)) else (if x17 = 110 then (some (10, 2, 0)) else (if x17 = 116 then (some (9, 2, 0)) else (if x17 = 117 then (if (wrap64 (x1 + 2)) ≥ (x0.size : Int) then (chancelref1_escape.j1 k x0 x1 true) else (if 0 ≤ (wrap64 (x1 + 2)) then (if (wrap64 (x1 + 2)) < (x0.size : Int) then (chancelref1_escape.j1 k x0 x1 ((bt x0 (wrap64 (x1 + 2))) != 123)) else (none)) else (none))) else (some (0, 0, 12)))))
def chancelref1_escape.j1 : Nat → ByteArray → Int → Bool → Option (Int × Int × Int)
  | 0, _, _, _ => none
  | k + 1, x0, x1, x43 => if x43 = true then (some (0, 0, 12)) else (chancelref1_escape.l0 k x0 x1 (wrap64 (x1 + 3)) 0)
def chancelref1_escape.j3 : Nat → ByteArray → Int → Int → Int → Option (Int × Int × Int)
  | 0, _, _, _, _ => none
  | k + 1, x0, x1, x7, x8 => if x7 = (wrap64 (x1 + 3)) then (chancelref1_escape.j4 k x1 x7 x8 true) else (if x7 ≥ (x0.size : Int) then (chancelref1_escape.j4 k x1 x7 x8 true) else (if 0 ≤ x7 then (if x7 < (x0.size : Int) then (chancelref1_escape.j4 k x1 x7 x8 ((bt x0 x7) != 125)) else (none)) else (none)))
def chancelref1_escape.j4 : Nat → Int → Int → Int → Bool → Option (Int × Int × Int)
  | 0, _, _, _, _ => none
  | k + 1, x1, x7, x8, x87 => if x87 = true then (some (0, 0, 12)) else ((chancelref1_Is.f (wrap32 (x8))).bind fun t246 => (if t246 = true then (some (wrap32 (x8), wrap64 ((wrap64 (x7 + 1)) - x1), 0)) else (some (0, 0, 11))))
def chancelref1_escape.l0 : Nat → ByteArray → Int → Int → Int → Option (Int × Int × Int)
  | 0, _, _, _, _ => none
  | k + 1, x0, x1, x7, x8 => if x7 < (x0.size : Int) then (if x7 < (wrap64 (x1 + 9)) then (if 0 ≤ x7 then ((chancelref1_digit.f k (bt x0 x7)).bind fun t244 => (if t244 ≥ 0 then ((chancelref1_digit.f k (bt x0 x7)).bind fun t245 => (chancelref1_escape.l0 k x0 x1 (wrap64 (x7 + 1)) (wrap64 ((wrap64 (16 * x8)) + t245)))) else (chancelref1_escape.j3 k x0 x1 x7 x8))) else (none)) else (chancelref1_escape.j3 k x0 x1 x7 x8)) else (chancelref1_escape.j3 k x0 x1 x7 x8)
end
def chancelref1_escape.f (k : Nat) (a0 : ByteArray) (a1 : Int) : Option (Int × Int × Int) := if (wrap64 (a1 + 1)) ≥ (a0.size : Int) then (some (0, 0, 12)) else (if 0 ≤ (wrap64 (a1 + 1)) then (if (wrap64 (a1 + 1)) < (a0.size : Int) then (if (bt a0 (wrap64 (a1 + 1))) = 92 then (chancelref1_escape.j0 k a0 a1 (bt a0 (wrap64 (a1 + 1))) ((bt a0 (wrap64 (a1 + 1))) == 92)) else (chancelref1_escape.j0 k a0 a1 (bt a0 (wrap64 (a1 + 1))) ((bt a0 (wrap64 (a1 + 1))) == 34))) else (none)) else (none))
theorem chancelref1_escape.mono_l : ∀ k, (∀ y0 y1 y2 y3, LeO (chancelref1_escape.j0 k y0 y1 y2 y3) (chancelref1_escape.j0 (k + 1) y0 y1 y2 y3)) ∧ (∀ y0 y1 y2, LeO (chancelref1_escape.j1 k y0 y1 y2) (chancelref1_escape.j1 (k + 1) y0 y1 y2)) ∧ (∀ y0 y1 y2 y3, LeO (chancelref1_escape.j3 k y0 y1 y2 y3) (chancelref1_escape.j3 (k + 1) y0 y1 y2 y3)) ∧ (∀ y0 y1 y2 y3, LeO (chancelref1_escape.j4 k y0 y1 y2 y3) (chancelref1_escape.j4 (k + 1) y0 y1 y2 y3)) ∧ (∀ y0 y1 y2 y3, LeO (chancelref1_escape.l0 k y0 y1 y2 y3) (chancelref1_escape.l0 (k + 1) y0 y1 y2 y3))
  | 0 => ⟨fun _ _ _ _ r h => by simp [chancelref1_escape.j0] at h, fun _ _ _ r h => by simp [chancelref1_escape.j1] at h, fun _ _ _ _ r h => by simp [chancelref1_escape.j3] at h, fun _ _ _ _ r h => by simp [chancelref1_escape.j4] at h, fun _ _ _ _ r h => by simp [chancelref1_escape.l0] at h⟩
  | k + 1 => by
    obtain ⟨ih0, ih1, ih2, ih3, ih4⟩ := chancelref1_escape.mono_l k
    refine ⟨?_, ?_, ?_, ?_, ?_⟩
    · intro y0 y1 y2 y3
      unfold chancelref1_escape.j0
      repeat' first
      | (with_reducible exact ih0 _ _ _ _)
      | (with_reducible exact ih1 _ _ _)
      | (with_reducible exact ih2 _ _ _ _)
      | (with_reducible exact ih3 _ _ _ _)
      | (with_reducible exact ih4 _ _ _ _)
      | (with_reducible exact chancelref1_digit.mono _ _)
      | (with_reducible exact LeO.refl _)
      | (with_reducible exact LeO.none _)
      | (with_reducible refine LeO.ite ?_ ?_)
      | (with_reducible refine LeO.bind ?_ (fun _ => ?_))
      | exact ih0 _ _ _ _
      | exact ih1 _ _ _
      | exact ih2 _ _ _ _
      | exact ih3 _ _ _ _
      | exact ih4 _ _ _ _
      | exact chancelref1_digit.mono _ _
      | exact LeO.none _
      | refine LeO.ite ?_ ?_
      | refine LeO.bind ?_ (fun _ => ?_)
    · intro y0 y1 y2
      unfold chancelref1_escape.j1
      repeat' first
      | (with_reducible exact ih0 _ _ _ _)
      | (with_reducible exact ih1 _ _ _)
      | (with_reducible exact ih2 _ _ _ _)
      | (with_reducible exact ih3 _ _ _ _)
      | (with_reducible exact ih4 _ _ _ _)
      | (with_reducible exact chancelref1_digit.mono _ _)
      | (with_reducible exact LeO.refl _)
      | (with_reducible exact LeO.none _)
      | (with_reducible refine LeO.ite ?_ ?_)
      | (with_reducible refine LeO.bind ?_ (fun _ => ?_))
      | exact ih0 _ _ _ _
      | exact ih1 _ _ _
      | exact ih2 _ _ _ _
      | exact ih3 _ _ _ _
      | exact ih4 _ _ _ _
      | exact chancelref1_digit.mono _ _
      | exact LeO.none _
      | refine LeO.ite ?_ ?_
      | refine LeO.bind ?_ (fun _ => ?_)
    · intro y0 y1 y2 y3
      unfold chancelref1_escape.j3
      repeat' first
      | (with_reducible exact ih0 _ _ _ _)
      | (with_reducible exact ih1 _ _ _)
      | (with_reducible exact ih2 _ _ _ _)
      | (with_reducible exact ih3 _ _ _ _)
      | (with_reducible exact ih4 _ _ _ _)
      | (with_reducible exact chancelref1_digit.mono _ _)
      | (with_reducible exact LeO.refl _)
      | (with_reducible exact LeO.none _)
      | (with_reducible refine LeO.ite ?_ ?_)
      | (with_reducible refine LeO.bind ?_ (fun _ => ?_))
      | exact ih0 _ _ _ _
      | exact ih1 _ _ _
      | exact ih2 _ _ _ _
      | exact ih3 _ _ _ _
      | exact ih4 _ _ _ _
      | exact chancelref1_digit.mono _ _
      | exact LeO.none _
      | refine LeO.ite ?_ ?_
      | refine LeO.bind ?_ (fun _ => ?_)
    · intro y0 y1 y2 y3
      unfold chancelref1_escape.j4
      repeat' first
      | (with_reducible exact ih0 _ _ _ _)
      | (with_reducible exact ih1 _ _ _)
      | (with_reducible exact ih2 _ _ _ _)
      | (with_reducible exact ih3 _ _ _ _)
      | (with_reducible exact ih4 _ _ _ _)
      | (with_reducible exact chancelref1_digit.mono _ _)
      | (with_reducible exact LeO.refl _)
      | (with_reducible exact LeO.none _)
      | (with_reducible refine LeO.ite ?_ ?_)
      | (with_reducible refine LeO.bind ?_ (fun _ => ?_))
      | exact ih0 _ _ _ _
      | exact ih1 _ _ _
      | exact ih2 _ _ _ _
      | exact ih3 _ _ _ _
      | exact ih4 _ _ _ _
      | exact chancelref1_digit.mono _ _
      | exact LeO.none _
      | refine LeO.ite ?_ ?_
      | refine LeO.bind ?_ (fun _ => ?_)
    · intro y0 y1 y2 y3
      unfold chancelref1_escape.l0
      repeat' first
      | (with_reducible exact ih0 _ _ _ _)
      | (with_reducible exact ih1 _ _ _)
      | (with_reducible exact ih2 _ _ _ _)
      | (with_reducible exact ih3 _ _ _ _)
      | (with_reducible exact ih4 _ _ _ _)
      | (with_reducible exact chancelref1_digit.mono _ _)
      | (with_reducible exact LeO.refl _)
      | (with_reducible exact LeO.none _)
      | (with_reducible refine LeO.ite ?_ ?_)
      | (with_reducible refine LeO.bind ?_ (fun _ => ?_))
      | exact ih0 _ _ _ _
      | exact ih1 _ _ _
      | exact ih2 _ _ _ _
      | exact ih3 _ _ _ _
      | exact ih4 _ _ _ _
      | exact chancelref1_digit.mono _ _
      | exact LeO.none _
      | refine LeO.ite ?_ ?_
      | refine LeO.bind ?_ (fun _ => ?_)
theorem chancelref1_escape.mono : ∀ a0 a1 k, LeO (chancelref1_escape.f k a0 a1) (chancelref1_escape.f (k + 1) a0 a1) := by
  intro a0 a1 k
  obtain ⟨ih0, ih1, ih2, ih3, ih4⟩ := chancelref1_escape.mono_l k
  unfold chancelref1_escape.f
  repeat' first
      | (with_reducible exact ih0 _ _ _ _)
      | (with_reducible exact ih1 _ _ _)
      | (with_reducible exact ih2 _ _ _ _)
      | (with_reducible exact ih3 _ _ _ _)
      | (with_reducible exact ih4 _ _ _ _)
      | (with_reducible exact chancelref1_digit.mono _ _)
      | (with_reducible exact LeO.refl _)
      | (with_reducible exact LeO.none _)
      | (with_reducible refine LeO.ite ?_ ?_)
      | (with_reducible refine LeO.bind ?_ (fun _ => ?_))
      | exact ih0 _ _ _ _
      | exact ih1 _ _ _
      | exact ih2 _ _ _ _
      | exact ih3 _ _ _ _
      | exact ih4 _ _ _ _
      | exact chancelref1_digit.mono _ _
      | exact LeO.none _
      | refine LeO.ite ?_ ?_
      | refine LeO.bind ?_ (fun _ => ?_)
set_option maxHeartbeats 8000000 in
set_option maxRecDepth 100000 in
theorem chancelref1_escape.calls (k : Nat) (a0 : ByteArray) (a1 : Int) (r1 : Int) (r2 : Int) (r3 : Int) (w : World) (h : chancelref1_escape.f k a0 a1 = some (r1, r2, r3)) :
    Calls Tryd.prog 46 #[.string a0, .int .i64 a1] w fun e w' => e = .returned (.tuple #[.int .i32 r1, .int .i64 r2, .int .i64 r3]) ∧ Drawn0 w w' := by
  have H : (if (wrap64 (a1 + 1)) ≥ (a0.size : Int) then (some (0, 0, 12)) else (if 0 ≤ (wrap64 (a1 + 1)) then (if (wrap64 (a1 + 1)) < (a0.size : Int) then (if (bt a0 (wrap64 (a1 + 1))) = 92 then (chancelref1_escape.j0 k a0 a1 (bt a0 (wrap64 (a1 + 1))) ((bt a0 (wrap64 (a1 + 1))) == 92)) else (chancelref1_escape.j0 k a0 a1 (bt a0 (wrap64 (a1 + 1))) ((bt a0 (wrap64 (a1 + 1))) == 34))) else (none)) else (none))) = some (r1, r2, r3) := h
  clear h
  by_cases c3 : (wrap64 (a1 + 1)) ≥ (a0.size : Int)
  · rw [if_pos c3] at H
    have c3b0 : decide ((a0.size : Int) ≤ (wrap64 (a1 + 1))) = true := decide_eq_true c3
    clear c3
    simp only [Option.some.injEq, Prod.mk.injEq] at H
    obtain ⟨rfl, rfl, rfl⟩ := H
    go_enter Tryd.func46, Tryd.ntmps46
    go_wp2
    go_ret3
    exact ⟨by first | rfl | (simp; done) | (simp [*]; done), by repeat (first | exact Drawn0.refl _ | apply Drawn0.step)⟩
  · rw [if_neg c3] at H
    have c3b0 : decide ((a0.size : Int) ≤ (wrap64 (a1 + 1))) = false := decide_eq_false c3
    clear c3
    obtain ⟨ji4, hji4⟩ : ∃ j_ : Int, (wrap64 (a1 + 1)) = j_ := ⟨_, rfl⟩
    replace H : (if 0 ≤ (ji4) then (if (ji4) < (a0.size : Int) then (if (bt a0 (ji4)) = 92 then (chancelref1_escape.j0 k a0 a1 (bt a0 (ji4)) ((bt a0 (ji4)) == 92)) else (chancelref1_escape.j0 k a0 a1 (bt a0 (ji4)) ((bt a0 (ji4)) == 34))) else (none)) else (none)) = some (r1, r2, r3) := by first | (rw [hji4] at H; exact H) | (simp only [hji4] at H ⊢; exact H)
    (try rw [hji4] at c3b0)
    have hji4w : (IntKind.i64.wrap (a1 + 1)) = ji4 := (i64_w _).trans hji4
    by_cases c5 : 0 ≤ (ji4)
    · rw [if_pos c5] at H
      have c5b0 : decide (0 ≤ (ji4)) = true := decide_eq_true c5
      clear c5
      by_cases c6 : (ji4) < (a0.size : Int)
      · rw [if_pos c6] at H
        have c6b0 : decide ((ji4) < (a0.size : Int)) = true := decide_eq_true c6
        clear c6
        have HC8 := Aside0.mk H
        clear H
        have p7 : 0 ≤ ((ji4) : Int) := of_decide_eq_true (by first | (with_reducible assumption) | assumption)
        have q7 : (ji4) < (a0.size : Int) := of_decide_eq_true (by first | (with_reducible assumption) | assumption)
        have hx7 := bt_at a0 (ji4)
        replace p7 := eq_true p7
        replace q7 := eq_true q7
        go_enter Tryd.func46, Tryd.ntmps46
        go_upto_if 18 with (fail)
        go_cut [18] (fun v18 wc => ∃ (kq : Nat) (x18_7 : Bool), v18 = .bool x18_7 ∧ Aside0 (chancelref1_escape.j0 kq a0 a1 (bt a0 (ji4)) x18_7 = some (r1, r2, r3)) ∧ Aside0 (kq ≤ k) ∧ Drawn0 w wc)
        case first =>
          have H := HC8.out
          clear HC8
          by_cases c9 : (bt a0 (ji4)) = 92
          · rw [if_pos c9] at H
            have c9b0 : ((bt a0 (ji4)) == 92) = true := beq_iff_eq.mpr c9
            have c9b1 : ((bt a0 (ji4)) != 92) = false := bne_eq_false_iff_eq.mpr c9
            clear c9
            (first | rw [c9b0] | (simp only [i64_w, i32_w]; rw [c9b0]) | skip)
            have H' := Aside0.mk H
            clear H
            go_wp2
            go_meet
            case rel => exact ⟨_, (((bt a0 (ji4)) == 92)), (by first | rfl | (simp; done) | (simp only [← hji4] <;> (first | rfl | (simp; done)); done) | (simp [*]; done)), H', ⟨by first | omega | exact Nat.le_refl _⟩, by repeat (first | exact Drawn0.refl _ | apply Drawn0.step)⟩
          · rw [if_neg c9] at H
            have c9b0 : ((bt a0 (ji4)) == 92) = false := beq_eq_false_iff_ne.mpr c9
            have c9b1 : ((bt a0 (ji4)) != 92) = true := bne_iff_ne.mpr c9
            (first | rw [c9b0] | (simp only [i64_w, i32_w]; rw [c9b0]) | skip)
            have H' := Aside0.mk H
            clear H
            go_wp2
            go_meet
            case rel => exact ⟨_, (((bt a0 (ji4)) == 34)), (by first | rfl | (simp; done) | (simp only [← hji4] <;> (first | rfl | (simp; done)); done) | (simp [*]; done)), H', ⟨by first | omega | exact Nat.le_refl _⟩, by repeat (first | exact Drawn0.refl _ | apply Drawn0.step)⟩
        case rest =>
          clear HC8
          try clear p2
          try clear c3
          try clear c3b0
          try clear c4
          try clear c5
          try clear c5b0
          try clear c6
          try clear c6b0
          try clear p6
          try clear p7
          try clear q7
          try clear hx7
          try clear c9
          try clear c9b0
          try clear c9b1
          try clear p7
          try clear q7
          obtain ⟨kq, x18_7, rfl, HA, HJ7, ⟨mc7, rfl⟩⟩ := hcut
          cases kq with
          | zero => exact absurd HA.out (by simp [chancelref1_escape.j0])
          | succ kj7 =>
            have H := HA.out
            clear HA
            simp only [chancelref1_escape.j0] at H
            by_cases c10 : x18_7 = true
            · subst c10
              have H1 : (if 0 ≤ (wrap64 (a1 + 1)) then (if (wrap64 (a1 + 1)) < (a0.size : Int) then (some (wrap32 (bt a0 (wrap64 (a1 + 1))), 2, 0)) else (none)) else (none)) = some (r1, r2, r3) := by rw [if_pos rfl] at H; exact H
              clear H
              have H := H1
              clear H1
              obtain ⟨ji11, hji11⟩ : ∃ j_ : Int, (wrap64 (a1 + 1)) = j_ := ⟨_, rfl⟩
              replace H : (if 0 ≤ (ji11) then (if (ji11) < (a0.size : Int) then (some (wrap32 (bt a0 (ji11)), 2, 0)) else (none)) else (none)) = some (r1, r2, r3) := by first | (rw [hji11] at H; exact H) | (simp only [hji11] at H ⊢; exact H)
              (try rw [hji11] at c3b0)
              have hji11w : (IntKind.i64.wrap (a1 + 1)) = ji11 := (i64_w _).trans hji11
              (try clear hji4w); (try clear hji4)
              by_cases c12 : 0 ≤ (ji11)
              · rw [if_pos c12] at H
                have c12b0 : decide (0 ≤ (ji11)) = true := decide_eq_true c12
                clear c12
                by_cases c13 : (ji11) < (a0.size : Int)
                · rw [if_pos c13] at H
                  have c13b0 : decide ((ji11) < (a0.size : Int)) = true := decide_eq_true c13
                  clear c13
                  simp only [Option.some.injEq, Prod.mk.injEq] at H
                  obtain ⟨rfl, rfl, rfl⟩ := H
                  have p14 : 0 ≤ ((ji11) : Int) := of_decide_eq_true (by first | (with_reducible assumption) | assumption)
                  have q14 : (ji11) < (a0.size : Int) := of_decide_eq_true (by first | (with_reducible assumption) | assumption)
                  have hx14 := bt_at a0 (ji11)
                  replace p14 := eq_true p14
                  replace q14 := eq_true q14
                  go_wp2
                  go_ret3
                  exact ⟨by first | rfl | (simp; done) | (simp only [← hji4, ← hji11] <;> (first | rfl | (simp; done)); done) | (simp [*]; done), by repeat (first | exact Drawn0.refl _ | apply Drawn0.step)⟩
                · rw [if_neg c13] at H
                  exact absurd H (by simp)
              · rw [if_neg c12] at H
                exact absurd H (by simp)
            · replace c10 := Bool.eq_false_iff.mpr c10
              subst c10
              have H1 : (if (bt a0 (ji4)) = 110 then (some (10, 2, 0)) else (if (bt a0 (ji4)) = 116 then (some (9, 2, 0)) else (if (bt a0 (ji4)) = 117 then (if (wrap64 (a1 + 2)) ≥ (a0.size : Int) then (chancelref1_escape.j1 kj7 a0 a1 true) else (if 0 ≤ (wrap64 (a1 + 2)) then (if (wrap64 (a1 + 2)) < (a0.size : Int) then (chancelref1_escape.j1 kj7 a0 a1 ((bt a0 (wrap64 (a1 + 2))) != 123)) else (none)) else (none))) else (some (0, 0, 12))))) = some (r1, r2, r3) := by rw [if_neg (show ¬ (false = true) by decide)] at H; exact H
              clear H
              have H := H1
              clear H1
              by_cases c15 : (bt a0 (ji4)) = 110
              · rw [if_pos c15] at H
                have c15b0 : ((bt a0 (ji4)) == 110) = true := beq_iff_eq.mpr c15
                have c15b1 : ((bt a0 (ji4)) != 110) = false := bne_eq_false_iff_eq.mpr c15
                clear c15
                simp only [Option.some.injEq, Prod.mk.injEq] at H
                obtain ⟨rfl, rfl, rfl⟩ := H
                go_wp2
                go_ret3
                exact ⟨by first | rfl | (simp; done) | (simp only [← hji4] <;> (first | rfl | (simp; done)); done) | (simp [*]; done), by repeat (first | exact Drawn0.refl _ | apply Drawn0.step)⟩
              · rw [if_neg c15] at H
                have c15b0 : ((bt a0 (ji4)) == 110) = false := beq_eq_false_iff_ne.mpr c15
                have c15b1 : ((bt a0 (ji4)) != 110) = true := bne_iff_ne.mpr c15
                by_cases c16 : (bt a0 (ji4)) = 116
                · rw [if_pos c16] at H
                  have c16b0 : ((bt a0 (ji4)) == 116) = true := beq_iff_eq.mpr c16
                  have c16b1 : ((bt a0 (ji4)) != 116) = false := bne_eq_false_iff_eq.mpr c16
                  clear c16
                  simp only [Option.some.injEq, Prod.mk.injEq] at H
                  obtain ⟨rfl, rfl, rfl⟩ := H
                  go_wp2
                  go_ret3
                  exact ⟨by first | rfl | (simp; done) | (simp only [← hji4] <;> (first | rfl | (simp; done)); done) | (simp [*]; done), by repeat (first | exact Drawn0.refl _ | apply Drawn0.step)⟩
                · rw [if_neg c16] at H
                  have c16b0 : ((bt a0 (ji4)) == 116) = false := beq_eq_false_iff_ne.mpr c16
                  have c16b1 : ((bt a0 (ji4)) != 116) = true := bne_iff_ne.mpr c16
                  by_cases c17 : (bt a0 (ji4)) = 117
                  · rw [if_pos c17] at H
                    have c17b0 : ((bt a0 (ji4)) == 117) = true := beq_iff_eq.mpr c17
                    have c17b1 : ((bt a0 (ji4)) != 117) = false := bne_eq_false_iff_eq.mpr c17
                    clear c17
                    have HC18 := Aside0.mk H
                    clear H
                    go_upto_region 12 with (fail)
                    go_cut [43] (fun v43 wc => ∃ (kq : Nat) (x43_17 : Bool), v43 = .bool x43_17 ∧ Aside0 (chancelref1_escape.j1 kq a0 a1 x43_17 = some (r1, r2, r3)) ∧ Aside0 (kq ≤ kj7) ∧ Drawn0 w wc)
                    case first =>
                      have H := HC18.out
                      clear HC18
                      by_cases c19 : (wrap64 (a1 + 2)) ≥ (a0.size : Int)
                      · rw [if_pos c19] at H
                        have c19b0 : decide ((a0.size : Int) ≤ (wrap64 (a1 + 2))) = true := decide_eq_true c19
                        clear c19
                        (first | rw [c19b0] | (simp only [i64_w, i32_w]; rw [c19b0]) | skip)
                        have H' := Aside0.mk H
                        clear H
                        go_wp2
                        go_meet
                        case rel => exact ⟨_, (true), (by first | rfl | (simp; done) | (simp [*]; done)), H', ⟨by have := HJ7.out; first | omega | exact Nat.le_refl _⟩, by repeat (first | exact Drawn0.refl _ | apply Drawn0.step)⟩
                      · rw [if_neg c19] at H
                        have c19b0 : decide ((a0.size : Int) ≤ (wrap64 (a1 + 2))) = false := decide_eq_false c19
                        clear c19
                        (first | rw [c19b0] | (simp only [i64_w, i32_w]; rw [c19b0]) | skip)
                        obtain ⟨ji20, hji20⟩ : ∃ j_ : Int, (wrap64 (a1 + 2)) = j_ := ⟨_, rfl⟩
                        replace H : (if 0 ≤ (ji20) then (if (ji20) < (a0.size : Int) then (chancelref1_escape.j1 kj7 a0 a1 ((bt a0 (ji20)) != 123)) else (none)) else (none)) = some (r1, r2, r3) := by first | (rw [hji20] at H; exact H) | (simp only [hji20] at H ⊢; exact H)
                        (try rw [hji20] at c19b0)
                        have hji20w : (IntKind.i64.wrap (a1 + 2)) = ji20 := (i64_w _).trans hji20
                        by_cases c21 : 0 ≤ (ji20)
                        · rw [if_pos c21] at H
                          have c21b0 : decide (0 ≤ (ji20)) = true := decide_eq_true c21
                          clear c21
                          by_cases c22 : (ji20) < (a0.size : Int)
                          · rw [if_pos c22] at H
                            have c22b0 : decide ((ji20) < (a0.size : Int)) = true := decide_eq_true c22
                            clear c22
                            have H' := Aside0.mk H
                            clear H
                            have p23 : 0 ≤ ((ji20) : Int) := of_decide_eq_true (by first | (with_reducible assumption) | assumption)
                            have q23 : (ji20) < (a0.size : Int) := of_decide_eq_true (by first | (with_reducible assumption) | assumption)
                            have hx23 := bt_at a0 (ji20)
                            replace p23 := eq_true p23
                            replace q23 := eq_true q23
                            go_wp2
                            go_meet
                            case rel => exact ⟨_, (((bt a0 (ji20)) != 123)), (by first | rfl | (simp; done) | (simp only [← hji20] <;> (first | rfl | (simp; done)); done) | (simp [*]; done)), H', ⟨by have := HJ7.out; first | omega | exact Nat.le_refl _⟩, by repeat (first | exact Drawn0.refl _ | apply Drawn0.step)⟩
                          · rw [if_neg c22] at H
                            exact absurd H (by simp)
                        · rw [if_neg c21] at H
                          exact absurd H (by simp)
                    case rest =>
                      clear HC18
                      try clear c1
                      try clear p1
                      try clear q1
                      try clear hx1
                      try clear c2
                      try clear p2
                      try clear q2
                      try clear hx2
                      try clear c3
                      try clear c3b0
                      try clear p3
                      try clear c4
                      try clear c5
                      try clear c5b0
                      try clear c6
                      try clear c6b0
                      try clear p6
                      try clear c7
                      try clear p7
                      try clear q7
                      try clear hx7
                      try clear c9
                      try clear c9b0
                      try clear c9b1
                      try clear c10
                      try clear c12
                      try clear c12b0
                      try clear c13
                      try clear c13b0
                      try clear p14
                      try clear q14
                      try clear hx14
                      try clear c15
                      try clear c15b0
                      try clear c15b1
                      try clear c16
                      try clear c16b0
                      try clear c16b1
                      try clear c17
                      try clear c17b0
                      try clear c17b1
                      try clear c19
                      try clear c19b0
                      try clear c21
                      try clear c21b0
                      try clear c22
                      try clear c22b0
                      try clear p23
                      try clear q23
                      try clear hx23
                      try clear p14
                      try clear p2
                      try clear p23
                      try clear p6
                      try clear p7
                      try clear q14
                      try clear q23
                      try clear q7
                      obtain ⟨kq, x43_17, rfl, HA, HJ17, ⟨mc17, rfl⟩⟩ := hcut
                      cases kq with
                      | zero => exact absurd HA.out (by simp [chancelref1_escape.j1])
                      | succ kj17 =>
                        have H := HA.out
                        clear HA
                        simp only [chancelref1_escape.j1] at H
                        by_cases c24 : x43_17 = true
                        · subst c24
                          have H1 : (some (0, 0, 12)) = some (r1, r2, r3) := by rw [if_pos rfl] at H; exact H
                          clear H
                          have H := H1
                          clear H1
                          simp only [Option.some.injEq, Prod.mk.injEq] at H
                          obtain ⟨rfl, rfl, rfl⟩ := H
                          go_wp2
                          go_ret3
                          exact ⟨by first | rfl | (simp; done) | (simp only [← hji4] <;> (first | rfl | (simp; done)); done) | (simp [*]; done), by repeat (first | exact Drawn0.refl _ | apply Drawn0.step)⟩
                        · replace c24 := Bool.eq_false_iff.mpr c24
                          subst c24
                          have H1 : (chancelref1_escape.l0 kj17 a0 a1 (wrap64 (a1 + 3)) 0) = some (r1, r2, r3) := by rw [if_neg (show ¬ (false = true) by decide)] at H; exact H
                          clear H
                          have H := H1
                          clear H1
                          have HC25 := Aside0.mk H
                          clear H
                          go_upto_block 1 with (fail)
                          go_cut [7, 8] (fun v7 v8 wc => ∃ (kq : Nat) (x7_24 : Int) (x8_24 : Int), v7 = .int .i64 x7_24 ∧ v8 = .int .i64 x8_24 ∧ Aside0 (chancelref1_escape.j3 kq a0 a1 x7_24 x8_24 = some (r1, r2, r3)) ∧ Aside0 (kq ≤ kj17) ∧ Drawn0 w wc)
                          case first =>
                            have H := HC25.out
                            clear HC25
                            have H' := Aside0.mk H
                            clear H
                            go_wp2
                            go_loopg [7, 8] kj17 (fun kq v7 v8 w' => ∃ (x7_3 : Int) (x8_3 : Int), v7 = .int .i64 x7_3 ∧ v8 = .int .i64 x8_3 ∧ Aside0 (chancelref1_escape.l0 kq a0 a1 x7_3 x8_3 = some (r1, r2, r3)) ∧ Aside0 (kq ≤ kj17) ∧ Drawn0 w w')
                            case atStart => exact ⟨(wrap64 (a1 + 3)), (0), (by first | rfl | (simp; done) | (simp [*]; done)), (by first | rfl | (simp; done) | (simp [*]; done)), H', ⟨Nat.le_refl _⟩, by repeat (first | exact Drawn0.refl _ | apply Drawn0.step)⟩
                            case round =>
                              clear H'
                              try clear c1
                              try clear p1
                              try clear q1
                              try clear hx1
                              try clear c2
                              try clear p2
                              try clear q2
                              try clear hx2
                              try clear c3
                              try clear c3b0
                              try clear p3
                              try clear c4
                              try clear c5
                              try clear c5b0
                              try clear c6
                              try clear c6b0
                              try clear p6
                              try clear c7
                              try clear p7
                              try clear q7
                              try clear hx7
                              try clear c9
                              try clear c9b0
                              try clear c9b1
                              try clear c10
                              try clear c12
                              try clear c12b0
                              try clear c13
                              try clear c13b0
                              try clear p14
                              try clear q14
                              try clear hx14
                              try clear c15
                              try clear c15b0
                              try clear c15b1
                              try clear c16
                              try clear c16b0
                              try clear c16b1
                              try clear c17
                              try clear c17b0
                              try clear c17b1
                              try clear c19
                              try clear c19b0
                              try clear c21
                              try clear c21b0
                              try clear c22
                              try clear c22b0
                              try clear p23
                              try clear q23
                              try clear hx23
                              try clear c24
                              try clear p1
                              try clear p14
                              try clear p2
                              try clear p23
                              try clear p3
                              try clear p6
                              try clear p7
                              try clear q1
                              try clear q14
                              try clear q2
                              try clear q23
                              try clear q7
                              obtain ⟨x7_3, x8_3, rfl, rfl, HA, HK3, ⟨m3, rfl⟩⟩ := hrel
                              cases gk with
                              | zero => exact absurd HA.out (by simp [chancelref1_escape.l0])
                              | succ k3 =>
                                have H := HA.out
                                clear HA
                                simp only [chancelref1_escape.l0] at H
                                by_cases c26 : x7_3 < (a0.size : Int)
                                · rw [if_pos c26] at H
                                  have c26b0 : decide (x7_3 < (a0.size : Int)) = true := decide_eq_true c26
                                  clear c26
                                  (first | rw [c26b0] | (simp only [i64_w, i32_w]; rw [c26b0]) | skip)
                                  by_cases c27 : x7_3 < (wrap64 (a1 + 9))
                                  · rw [if_pos c27] at H
                                    have c27b0 : decide (x7_3 < (wrap64 (a1 + 9))) = true := decide_eq_true c27
                                    clear c27
                                    by_cases c28 : 0 ≤ x7_3
                                    · rw [if_pos c28] at H
                                      have c28b0 : decide (0 ≤ x7_3) = true := decide_eq_true c28
                                      clear c28
                                      replace H := Option.bind_eq_some_iff.mp H
                                      obtain ⟨t244, A300, H⟩ := H
                                      replace H : (if t244 ≥ 0 then ((chancelref1_digit.f k3 (bt a0 x7_3)).bind fun t245 => (chancelref1_escape.l0 k3 a0 a1 (wrap64 (x7_3 + 1)) (wrap64 ((wrap64 (16 * x8_3)) + t245)))) else (chancelref1_escape.j3 k3 a0 a1 x7_3 x8_3)) = some (r1, r2, r3) := H
                                      have A30 := Aside0.mk A300
                                      clear A300
                                      by_cases c31 : t244 ≥ 0
                                      · rw [if_pos c31] at H
                                        have c31b0 : decide (0 ≤ t244) = true := decide_eq_true c31
                                        clear c31
                                        replace H := Option.bind_eq_some_iff.mp H
                                        obtain ⟨t245, A330, H⟩ := H
                                        replace H : (chancelref1_escape.l0 k3 a0 a1 (wrap64 (x7_3 + 1)) (wrap64 ((wrap64 (16 * x8_3)) + t245))) = some (r1, r2, r3) := H
                                        have A33 := Aside0.mk A330
                                        clear A330
                                        have H' := Aside0.mk H
                                        clear H
                                        have p29 : 0 ≤ (x7_3 : Int) := of_decide_eq_true (by first | (with_reducible assumption) | assumption)
                                        have q29 : x7_3 < (a0.size : Int) := of_decide_eq_true (by first | (with_reducible assumption) | assumption)
                                        have hx29 := bt_at a0 x7_3
                                        replace p29 := eq_true p29
                                        replace q29 := eq_true q29
                                        go_wp2_with (first | (go_at_call 56; (with_reducible refine (chancelref1_digit.calls k3 (bt a0 x7_3) t244 _ A30.out).mono ?_); rintro e w' ⟨rfl, ⟨nd, rfl⟩⟩; have p32 : 0 ≤ (x7_3 : Int) := of_decide_eq_true (by first | (with_reducible assumption) | assumption); have q32 : x7_3 < (a0.size : Int) := of_decide_eq_true (by first | (with_reducible assumption) | assumption); have hx32 := bt_at a0 x7_3; replace p32 := eq_true p32; replace q32 := eq_true q32) | ((with_reducible refine gate_callee (f := 56) rfl ?_); refine goesL_ (some 68) rfl rfl Tryd.func56 (by kernel_rfl) rfl #[.int .u8 (bt a0 x7_3)] rfl (by (try simp only [List.map_toArray, List.map_cons, List.map_nil]); first | done | rfl | (simp only [List.length_drop, List.length_take]; rfl)) ?_; (with_reducible refine (chancelref1_digit.calls k3 (bt a0 x7_3) t245 _ A33.out).mono ?_); rintro e w' ⟨rfl, ⟨nd, rfl⟩⟩; refine ⟨_, rfl, ?_⟩))
                                        go_roundg k3
                                        case measure => have := HJ7.out; have := HJ17.out; have := HK3.out; omega
                                        case rel => exact ⟨(wrap64 (x7_3 + 1)), (wrap64 ((wrap64 (16 * x8_3)) + t245)), (by first | rfl | (simp; done) | (simp [*]; done)), (by first | rfl | (simp; done) | (simp [*]; done)), H', ⟨by have := HJ7.out; have := HJ17.out; have := HK3.out; omega⟩, by repeat (first | exact Drawn0.refl _ | apply Drawn0.step)⟩
                                      · rw [if_neg c31] at H
                                        have c31b0 : decide (0 ≤ t244) = false := decide_eq_false c31
                                        clear c31
                                        have H' := Aside0.mk H
                                        clear H
                                        have p29 : 0 ≤ (x7_3 : Int) := of_decide_eq_true (by first | (with_reducible assumption) | assumption)
                                        have q29 : x7_3 < (a0.size : Int) := of_decide_eq_true (by first | (with_reducible assumption) | assumption)
                                        have hx29 := bt_at a0 x7_3
                                        replace p29 := eq_true p29
                                        replace q29 := eq_true q29
                                        go_wp2_with (first | (go_at_call 56; (with_reducible refine (chancelref1_digit.calls k3 (bt a0 x7_3) t244 _ A30.out).mono ?_); rintro e w' ⟨rfl, ⟨nd, rfl⟩⟩))
                                        go_meet
                                        case rel => exact ⟨_, (x7_3), (x8_3), (by first | rfl | (simp; done) | (simp [*]; done)), (by first | rfl | (simp; done) | (simp [*]; done)), H', ⟨by have := HJ7.out; have := HJ17.out; have := HK3.out; first | omega | exact Nat.le_refl _⟩, by repeat (first | exact Drawn0.refl _ | apply Drawn0.step)⟩
                                    · rw [if_neg c28] at H
                                      exact absurd H (by simp)
                                  · rw [if_neg c27] at H
                                    have c27b0 : decide (x7_3 < (wrap64 (a1 + 9))) = false := decide_eq_false c27
                                    clear c27
                                    have H' := Aside0.mk H
                                    clear H
                                    go_wp2
                                    go_meet
                                    case rel => exact ⟨_, (x7_3), (x8_3), (by first | rfl | (simp; done) | (simp [*]; done)), (by first | rfl | (simp; done) | (simp [*]; done)), H', ⟨by have := HJ7.out; have := HJ17.out; have := HK3.out; first | omega | exact Nat.le_refl _⟩, by repeat (first | exact Drawn0.refl _ | apply Drawn0.step)⟩
                                · rw [if_neg c26] at H
                                  have c26b0 : decide (x7_3 < (a0.size : Int)) = false := decide_eq_false c26
                                  clear c26
                                  (first | rw [c26b0] | (simp only [i64_w, i32_w]; rw [c26b0]) | skip)
                                  have H' := Aside0.mk H
                                  clear H
                                  go_wp2
                                  go_meet
                                  case rel => exact ⟨_, (x7_3), (x8_3), (by first | rfl | (simp; done) | (simp [*]; done)), (by first | rfl | (simp; done) | (simp [*]; done)), H', ⟨by have := HJ7.out; have := HJ17.out; have := HK3.out; first | omega | exact Nat.le_refl _⟩, by repeat (first | exact Drawn0.refl _ | apply Drawn0.step)⟩
                          case rest =>
                            clear HC25
                            try clear c1
                            try clear p1
                            try clear q1
                            try clear hx1
                            try clear c2
                            try clear p2
                            try clear q2
                            try clear hx2
                            try clear c3
                            try clear c3b0
                            try clear p3
                            try clear q3
                            try clear hx3
                            try clear c4
                            try clear c5
                            try clear c5b0
                            try clear c6
                            try clear c6b0
                            try clear p6
                            try clear c7
                            try clear p7
                            try clear q7
                            try clear hx7
                            try clear c9
                            try clear c9b0
                            try clear c9b1
                            try clear c10
                            try clear c12
                            try clear c12b0
                            try clear c13
                            try clear c13b0
                            try clear p14
                            try clear q14
                            try clear hx14
                            try clear c15
                            try clear c15b0
                            try clear c15b1
                            try clear c16
                            try clear c16b0
                            try clear c16b1
                            try clear c17
                            try clear c17b0
                            try clear c17b1
                            try clear c19
                            try clear c19b0
                            try clear c21
                            try clear c21b0
                            try clear c22
                            try clear c22b0
                            try clear p23
                            try clear q23
                            try clear hx23
                            try clear c24
                            try clear c26
                            try clear c26b0
                            try clear c27
                            try clear c27b0
                            try clear c28
                            try clear c28b0
                            try clear p29
                            try clear q29
                            try clear hx29
                            try clear c31
                            try clear c31b0
                            try clear p32
                            try clear q32
                            try clear hx32
                            try clear p1
                            try clear p14
                            try clear p2
                            try clear p23
                            try clear p29
                            try clear p3
                            try clear p32
                            try clear p6
                            try clear p7
                            try clear q1
                            try clear q14
                            try clear q2
                            try clear q23
                            try clear q29
                            try clear q32
                            try clear q7
                            obtain ⟨kq, x7_24, x8_24, rfl, rfl, HA, HJ24, ⟨mc24, rfl⟩⟩ := hcut
                            cases kq with
                            | zero => exact absurd HA.out (by simp [chancelref1_escape.j3])
                            | succ kj24 =>
                              have H := HA.out
                              clear HA
                              simp only [chancelref1_escape.j3] at H
                              have HC34 := Aside0.mk H
                              clear H
                              go_upto_region 18 with (fail)
                              go_cut [87] (fun v87 wc => ∃ (kq : Nat) (x87_33 : Bool), v87 = .bool x87_33 ∧ Aside0 (chancelref1_escape.j4 kq a1 x7_24 x8_24 x87_33 = some (r1, r2, r3)) ∧ Aside0 (kq ≤ kj24) ∧ Drawn0 w wc)
                              case first =>
                                have H := HC34.out
                                clear HC34
                                by_cases c35 : x7_24 = (wrap64 (a1 + 3))
                                · rw [if_pos c35] at H
                                  have c35b0 : (x7_24 == (wrap64 (a1 + 3))) = true := beq_iff_eq.mpr c35
                                  have c35b1 : (x7_24 != (wrap64 (a1 + 3))) = false := bne_eq_false_iff_eq.mpr c35
                                  clear c35
                                  (first | rw [c35b0] | (simp only [i64_w, i32_w]; rw [c35b0]) | skip)
                                  have H' := Aside0.mk H
                                  clear H
                                  go_wp2
                                  go_meet
                                  case rel => exact ⟨_, (true), (by first | rfl | (simp; done) | (simp [*]; done)), H', ⟨by have := HJ7.out; have := HJ17.out; have := HJ24.out; first | omega | exact Nat.le_refl _⟩, by repeat (first | exact Drawn0.refl _ | apply Drawn0.step)⟩
                                · rw [if_neg c35] at H
                                  have c35b0 : (x7_24 == (wrap64 (a1 + 3))) = false := beq_eq_false_iff_ne.mpr c35
                                  have c35b1 : (x7_24 != (wrap64 (a1 + 3))) = true := bne_iff_ne.mpr c35
                                  (first | rw [c35b0] | (simp only [i64_w, i32_w]; rw [c35b0]) | skip)
                                  by_cases c36 : x7_24 ≥ (a0.size : Int)
                                  · rw [if_pos c36] at H
                                    have c36b0 : decide ((a0.size : Int) ≤ x7_24) = true := decide_eq_true c36
                                    clear c36
                                    have H' := Aside0.mk H
                                    clear H
                                    go_wp2
                                    go_meet
                                    case rel => exact ⟨_, (true), (by first | rfl | (simp; done) | (simp [*]; done)), H', ⟨by have := HJ7.out; have := HJ17.out; have := HJ24.out; first | omega | exact Nat.le_refl _⟩, by repeat (first | exact Drawn0.refl _ | apply Drawn0.step)⟩
                                  · rw [if_neg c36] at H
                                    have c36b0 : decide ((a0.size : Int) ≤ x7_24) = false := decide_eq_false c36
                                    clear c36
                                    by_cases c37 : 0 ≤ x7_24
                                    · rw [if_pos c37] at H
                                      have c37b0 : decide (0 ≤ x7_24) = true := decide_eq_true c37
                                      clear c37
                                      by_cases c38 : x7_24 < (a0.size : Int)
                                      · rw [if_pos c38] at H
                                        have c38b0 : decide (x7_24 < (a0.size : Int)) = true := decide_eq_true c38
                                        clear c38
                                        have H' := Aside0.mk H
                                        clear H
                                        have p39 : 0 ≤ (x7_24 : Int) := of_decide_eq_true (by first | (with_reducible assumption) | assumption)
                                        have q39 : x7_24 < (a0.size : Int) := of_decide_eq_true (by first | (with_reducible assumption) | assumption)
                                        have hx39 := bt_at a0 x7_24
                                        replace p39 := eq_true p39
                                        replace q39 := eq_true q39
                                        go_wp2
                                        go_meet
                                        case rel => exact ⟨_, (((bt a0 x7_24) != 125)), (by first | rfl | (simp; done) | (simp [*]; done)), H', ⟨by have := HJ7.out; have := HJ17.out; have := HJ24.out; first | omega | exact Nat.le_refl _⟩, by repeat (first | exact Drawn0.refl _ | apply Drawn0.step)⟩
                                      · rw [if_neg c38] at H
                                        exact absurd H (by simp)
                                    · rw [if_neg c37] at H
                                      exact absurd H (by simp)
                              case rest =>
                                clear HC34
                                try clear c1
                                try clear p1
                                try clear q1
                                try clear hx1
                                try clear c2
                                try clear p2
                                try clear q2
                                try clear hx2
                                try clear c3
                                try clear c3b0
                                try clear p3
                                try clear q3
                                try clear hx3
                                try clear c4
                                try clear c5
                                try clear c5b0
                                try clear c6
                                try clear c6b0
                                try clear p6
                                try clear c7
                                try clear p7
                                try clear q7
                                try clear hx7
                                try clear c9
                                try clear c9b0
                                try clear c9b1
                                try clear c10
                                try clear c12
                                try clear c12b0
                                try clear c13
                                try clear c13b0
                                try clear p14
                                try clear q14
                                try clear hx14
                                try clear c15
                                try clear c15b0
                                try clear c15b1
                                try clear c16
                                try clear c16b0
                                try clear c16b1
                                try clear c17
                                try clear c17b0
                                try clear c17b1
                                try clear c19
                                try clear c19b0
                                try clear c21
                                try clear c21b0
                                try clear c22
                                try clear c22b0
                                try clear p23
                                try clear q23
                                try clear hx23
                                try clear c24
                                try clear c26
                                try clear c26b0
                                try clear c27
                                try clear c27b0
                                try clear c28
                                try clear c28b0
                                try clear p29
                                try clear q29
                                try clear hx29
                                try clear c31
                                try clear c31b0
                                try clear p32
                                try clear q32
                                try clear hx32
                                try clear c35
                                try clear c35b0
                                try clear c35b1
                                try clear c36
                                try clear c36b0
                                try clear c37
                                try clear c37b0
                                try clear c38
                                try clear c38b0
                                try clear p39
                                try clear q39
                                try clear hx39
                                try clear p1
                                try clear p14
                                try clear p2
                                try clear p23
                                try clear p29
                                try clear p3
                                try clear p32
                                try clear p39
                                try clear p6
                                try clear p7
                                try clear q1
                                try clear q14
                                try clear q2
                                try clear q23
                                try clear q29
                                try clear q3
                                try clear q32
                                try clear q39
                                try clear q7
                                obtain ⟨kq, x87_33, rfl, HA, HJ33, ⟨mc33, rfl⟩⟩ := hcut
                                cases kq with
                                | zero => exact absurd HA.out (by simp [chancelref1_escape.j4])
                                | succ kj33 =>
                                  have H := HA.out
                                  clear HA
                                  simp only [chancelref1_escape.j4] at H
                                  by_cases c40 : x87_33 = true
                                  · subst c40
                                    have H1 : (some (0, 0, 12)) = some (r1, r2, r3) := by rw [if_pos rfl] at H; exact H
                                    clear H
                                    have H := H1
                                    clear H1
                                    simp only [Option.some.injEq, Prod.mk.injEq] at H
                                    obtain ⟨rfl, rfl, rfl⟩ := H
                                    go_wp2
                                    go_ret3
                                    exact ⟨by first | rfl | (simp; done) | (simp only [← hji4] <;> (first | rfl | (simp; done)); done) | (simp [*]; done), by repeat (first | exact Drawn0.refl _ | apply Drawn0.step)⟩
                                  · replace c40 := Bool.eq_false_iff.mpr c40
                                    subst c40
                                    have H1 : ((chancelref1_Is.f (wrap32 (x8_24))).bind fun t246 => (if t246 = true then (some (wrap32 (x8_24), wrap64 ((wrap64 (x7_24 + 1)) - a1), 0)) else (some (0, 0, 11)))) = some (r1, r2, r3) := by rw [if_neg (show ¬ (false = true) by decide)] at H; exact H
                                    clear H
                                    have H := H1
                                    clear H1
                                    replace H := Option.bind_eq_some_iff.mp H
                                    obtain ⟨t246, A410, H⟩ := H
                                    replace H : (if t246 = true then (some (wrap32 (x8_24), wrap64 ((wrap64 (x7_24 + 1)) - a1), 0)) else (some (0, 0, 11))) = some (r1, r2, r3) := H
                                    have A41 := Aside0.mk A410
                                    clear A410
                                    by_cases c42 : t246 = true
                                    · subst c42
                                      have H1 : (some (wrap32 (x8_24), wrap64 ((wrap64 (x7_24 + 1)) - a1), 0)) = some (r1, r2, r3) := by rw [if_pos rfl] at H; exact H
                                      clear H
                                      have H := H1
                                      clear H1
                                      simp only [Option.some.injEq, Prod.mk.injEq] at H
                                      obtain ⟨rfl, rfl, rfl⟩ := H
                                      go_wp2_with (first | ((with_reducible refine gate_callee (f := 27) rfl ?_); refine goesL_ (some 90) rfl rfl Tryd.func27 (by kernel_rfl) rfl #[.int .i32 (wrap32 (x8_24))] rfl (by (try simp only [List.map_toArray, List.map_cons, List.map_nil]); first | done | rfl | (simp only [List.length_drop, List.length_take]; rfl)) ?_; (with_reducible refine (chancelref1_Is.calls (wrap32 (x8_24)) true _ A41.out).mono ?_); rintro e w' ⟨rfl, ⟨nd, rfl⟩⟩; refine ⟨_, rfl, ?_⟩))
                                      go_ret3
                                      exact ⟨by first | rfl | (simp; done) | (simp only [← hji4] <;> (first | rfl | (simp; done)); done) | (simp [*]; done), by repeat (first | exact Drawn0.refl _ | apply Drawn0.step)⟩
                                    · replace c42 := Bool.eq_false_iff.mpr c42
                                      subst c42
                                      have H1 : (some (0, 0, 11)) = some (r1, r2, r3) := by rw [if_neg (show ¬ (false = true) by decide)] at H; exact H
                                      clear H
                                      have H := H1
                                      clear H1
                                      simp only [Option.some.injEq, Prod.mk.injEq] at H
                                      obtain ⟨rfl, rfl, rfl⟩ := H
                                      go_wp2_with (first | ((with_reducible refine gate_callee (f := 27) rfl ?_); refine goesL_ (some 90) rfl rfl Tryd.func27 (by kernel_rfl) rfl #[.int .i32 (wrap32 (x8_24))] rfl (by (try simp only [List.map_toArray, List.map_cons, List.map_nil]); first | done | rfl | (simp only [List.length_drop, List.length_take]; rfl)) ?_; (with_reducible refine (chancelref1_Is.calls (wrap32 (x8_24)) false _ A41.out).mono ?_); rintro e w' ⟨rfl, ⟨nd, rfl⟩⟩; refine ⟨_, rfl, ?_⟩))
                                      go_ret3
                                      exact ⟨by first | rfl | (simp; done) | (simp only [← hji4] <;> (first | rfl | (simp; done)); done) | (simp [*]; done), by repeat (first | exact Drawn0.refl _ | apply Drawn0.step)⟩
                  · rw [if_neg c17] at H
                    have c17b0 : ((bt a0 (ji4)) == 117) = false := beq_eq_false_iff_ne.mpr c17
                    have c17b1 : ((bt a0 (ji4)) != 117) = true := bne_iff_ne.mpr c17
                    simp only [Option.some.injEq, Prod.mk.injEq] at H
                    obtain ⟨rfl, rfl, rfl⟩ := H
                    go_wp2
                    go_ret3
                    exact ⟨by first | rfl | (simp; done) | (simp only [← hji4] <;> (first | rfl | (simp; done)); done) | (simp [*]; done), by repeat (first | exact Drawn0.refl _ | apply Drawn0.step)⟩
      · rw [if_neg c6] at H
        exact absurd H (by simp)
    · rw [if_neg c5] at H
      exact absurd H (by simp)

end Go.Proofs.YtaiegjgbdfmfpaaDoor.GL
