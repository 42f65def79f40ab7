-- Written by wip/tools/gprint.py over the kit's printer.
import Derived.Test.YtlhpkapcehjolaaDoorGNumT0
namespace Go.Proofs.YtlhpkapcehjolaaDoor.GNumT
open Go.RowKit Go.Proofs.YtlhpkapcehjolaaDoorW.PrintWords Go.Proofs.YtlhpkapcehjolaaDoorW.PrintLast Go.Proofs.YtlhpkapcehjolaaDoor.Hand Go.Proofs.YtlhpkapcehjolaaDoorW.PrintMore
attribute [local go_sem] max2_int min2_int max_two min_two max_three min_three max_four min_four   -- for this text's walks alone
set_option linter.unusedVariables false
set_option linter.unusedSimpArgs false

/-! ### num_Sub: function 11 -/
def num_Sub.f (a0 : Int) (a1 : Int) : Option (Int × Int) := if a1 = 0 then (some (wrap64 (a0 - a1), 0)) else (if ((decide ((wrap64 (a0 - a1)) < a0)) == (decide (a1 > 0))) = true then (some (wrap64 (a0 - a1), 0)) else (some (0, 17)))
set_option maxHeartbeats 8000000 in
set_option maxRecDepth 100000 in
theorem num_Sub.calls (a0 : Int) (a1 : Int) (r1 : Int) (r2 : Int) (w : World) (h : num_Sub.f a0 a1 = some (r1, r2)) :
    Calls Tryd.prog 11 #[.int .i64 a0, .int .i64 a1] w fun e w' => e = .returned (.tuple #[.int .i64 r1, .int .i64 r2]) ∧ Drawn0 w w' := by
  have H : (if a1 = 0 then (some (wrap64 (a0 - a1), 0)) else (if ((decide ((wrap64 (a0 - a1)) < a0)) == (decide (a1 > 0))) = true then (some (wrap64 (a0 - a1), 0)) else (some (0, 17)))) = some (r1, r2) := h
  clear h
  by_cases c3 : a1 = 0
  · rw [if_pos c3] at H
    have c3b0 : (a1 == 0) = true := beq_iff_eq.mpr c3
    have c3b1 : (a1 != 0) = false := bne_eq_false_iff_eq.mpr c3
    clear c3
    simp only [Option.some.injEq, Prod.mk.injEq] at H
    obtain ⟨rfl, rfl⟩ := H
    go_enter Tryd.func11, Tryd.ntmps11
    go_wp2
    go_ret2
    exact ⟨by first | rfl | (simp; done) | (simp [*]; done), by repeat (first | exact Drawn0.refl _ | apply Drawn0.step)⟩
  · rw [if_neg c3] at H
    have c3b0 : (a1 == 0) = false := beq_eq_false_iff_ne.mpr c3
    have c3b1 : (a1 != 0) = true := bne_iff_ne.mpr c3
    by_cases c4 : ((decide ((wrap64 (a0 - a1)) < a0)) == (decide (a1 > 0))) = true
    · rw [if_pos c4] at H
      have c4b0 : ((decide ((wrap64 (a0 - a1)) < a0)) == (decide (a1 > 0))) = true := c4
      (try (have c4b1 : decide ((decide ((wrap64 (a0 - a1)) < a0)) = (decide (a1 > 0))) = true := by simpa using c4))
      (try (have c4b2 : ((decide ((wrap64 (a0 - a1)) < a0)) == (decide (a1 > 0))) = true := by simpa using c4))
      clear c4
      simp only [Option.some.injEq, Prod.mk.injEq] at H
      obtain ⟨rfl, rfl⟩ := H
      go_enter Tryd.func11, Tryd.ntmps11
      go_wp2
      go_ret2
      exact ⟨by first | rfl | (simp; done) | (simp [*]; done), by repeat (first | exact Drawn0.refl _ | apply Drawn0.step)⟩
    · rw [if_neg c4] at H
      have c4b0 : ((decide ((wrap64 (a0 - a1)) < a0)) == (decide (a1 > 0))) = false := by simpa using c4
      (try (have c4b1 : decide ((decide ((wrap64 (a0 - a1)) < a0)) = (decide (a1 > 0))) = false := by simpa using c4))
      (try (have c4b2 : ((decide ((wrap64 (a0 - a1)) < a0)) == (decide (a1 > 0))) = false := by simpa using c4))
      (try (have c4b3 : ¬ ((decide ((wrap64 (a0 - a1)) < a0)) = (decide (a1 > 0))) := by simpa using c4))
      clear c4
      simp only [Option.some.injEq, Prod.mk.injEq] at H
      obtain ⟨rfl, rfl⟩ := H
      go_enter Tryd.func11, Tryd.ntmps11
      go_wp2
      go_ret2
      exact ⟨by first | rfl | (simp; done) | (simp [*]; done), by repeat (first | exact Drawn0.refl _ | apply Drawn0.step)⟩

/-! ### num_Neg: function 16 -/
def num_Neg.f (a0 : Int) : Option (Int × Int) := (num_Sub.f 0 a0).bind fun bt101 => (some (bt101.1, bt101.2))
set_option maxHeartbeats 8000000 in
set_option maxRecDepth 100000 in
theorem num_Neg.calls (a0 : Int) (r1 : Int) (r2 : Int) (w : World) (h : num_Neg.f a0 = some (r1, r2)) :
    Calls Tryd.prog 16 #[.int .i64 a0] w fun e w' => e = .returned (.tuple #[.int .i64 r1, .int .i64 r2]) ∧ Drawn0 w w' := by
  have H : ((num_Sub.f 0 a0).bind fun bt101 => (some (bt101.1, bt101.2))) = some (r1, r2) := h
  clear h
  replace H := Option.bind_eq_some_iff.mp H
  obtain ⟨⟨t101, t102⟩, A20, H⟩ := H
  replace H : (some (t101, t102)) = some (r1, r2) := H
  have A2 := Aside0.mk A20
  clear A20
  simp only [Option.some.injEq, Prod.mk.injEq] at H
  obtain ⟨rfl, rfl⟩ := H
  go_enter Tryd.func16, Tryd.ntmps16
  go_wp2_with (first | ((with_reducible refine gate_callee (f := 11) rfl ?_); refine goesL_ (some 5) rfl rfl Tryd.func11 (by kernel_rfl) rfl #[.int .i64 0, .int .i64 a0] rfl (by (try simp only [List.map_toArray, List.map_cons, List.map_nil]); first | done | rfl | (simp only [List.length_drop, List.length_take]; rfl)) ?_; (with_reducible refine (num_Sub.calls 0 a0 t101 t102 _ A2.out).mono ?_); rintro e w' ⟨rfl, ⟨nd, rfl⟩⟩; refine ⟨_, rfl, ?_⟩))
  go_ret2
  exact ⟨by first | rfl | (simp; done) | (simp [*]; done), by repeat (first | exact Drawn0.refl _ | apply Drawn0.step)⟩

/-! ### num_Text: function 21, given -/
def num_Text.f (a0 : Int) : Option (ByteArray) := if -9223372036854775808 ≤ a0 ∧ a0 ≤ 9223372036854775807 then some ⟨(Lib.itoa a0).toArray⟩ else none
theorem num_Text.calls (a0 : Int) (r : ByteArray) (w : World) (h : num_Text.f a0 = some r) (hT : Tb w) :
    Calls Tryd.prog 21 #[.int .i64 a0] w fun e w' => e = .returned (.string r) ∧ Below w.heap.size w w' := by
  unfold num_Text.f at h
  split at h
  case isFalse => exact absurd h (by simp)
  case isTrue hb =>
    obtain rfl := Option.some.inj h
    clear h
    go_enter Tryd.func21, Tryd.ntmps21
    go_wp2_with (go_at_call 23; refine (Tryd.strconv_FormatInt_10 _ hb.1 hb.2 _ hT.1).mono ?_; rintro e w' ⟨rfl, k, os, rfl⟩)
    go_ret
    exact ⟨rfl, grow_below w _ _⟩

/-! ### chancellaw2_known: function 9 -/
def chancellaw2_known.f  : Option (Bool) := (num_Neg.f (-9223372036854775808)).bind fun bt103 => (if bt103.2 = 17 then ((num_Text.f 7).bind fun t105 => (some (t105.toList == ([55] : List UInt8)))) else (some false))
set_option maxHeartbeats 8000000 in
set_option maxRecDepth 100000 in
theorem chancellaw2_known.calls  (r : Bool) (w : World) (h : chancellaw2_known.f  = some r) (hT : Tb w) :
    Calls Tryd.prog 9 #[] w fun e w' => e = .returned (.bool r) ∧ Below w.heap.size w w' := by
  have HB := Aside0.mk (Below.refl w.heap.size w)
  have H : ((num_Neg.f (-9223372036854775808)).bind fun bt103 => (if bt103.2 = 17 then ((num_Text.f 7).bind fun t105 => (some (t105.toList == ([55] : List UInt8)))) else (some false))) = some r := h
  clear h
  have HT := Aside0.mk hT
  clear hT
  replace H := Option.bind_eq_some_iff.mp H
  obtain ⟨⟨t103, t104⟩, A10, H⟩ := H
  replace H : (if t104 = 17 then ((num_Text.f 7).bind fun t105 => (some (t105.toList == ([55] : List UInt8)))) else (some false)) = some r := H
  have A1 := Aside0.mk A10
  clear A10
  by_cases c2 : t104 = 17
  · rw [if_pos c2] at H
    have c2b0 : (t104 == 17) = true := beq_iff_eq.mpr c2
    have c2b1 : (t104 != 17) = false := bne_eq_false_iff_eq.mpr c2
    clear c2
    replace H := Option.bind_eq_some_iff.mp H
    obtain ⟨t105, A30, H⟩ := H
    replace H : (some (t105.toList == ([55] : List UInt8))) = some r := H
    have A3 := Aside0.mk A30
    clear A30
    obtain rfl := Option.some.inj H
    go_enter Tryd.func9, Tryd.ntmps9
    go_wp2_with (first | ((with_reducible refine gate_callee (f := 16) rfl ?_); refine goesL_ (some 4) rfl rfl Tryd.func16 (by kernel_rfl) rfl #[.int .i64 (-9223372036854775808)] rfl (by (try simp only [List.map_toArray, List.map_cons, List.map_nil]); first | done | rfl | (simp only [List.length_drop, List.length_take]; rfl)) ?_; (with_reducible refine (num_Neg.calls (-9223372036854775808) t103 t104 _ A1.out).mono ?_); rintro e w' ⟨rfl, ⟨nd, rfl⟩⟩; refine ⟨_, rfl, ?_⟩) | (go_at_call 21; (with_reducible refine (num_Text.calls 7 t105 _ A3.out ?side1).mono ?_); (case side1 => exact Tb.below HT.out (by repeat (first | (with_reducible first | exact HB.out | apply below_alloc | apply pw_below_drewN | apply below_drew1) | exact HB.out))); rintro e w4 ⟨rfl, hb⟩; have n0_ := Aside0.mk (below_step (by repeat (first | (with_reducible first | exact HB.out | apply below_alloc | apply pw_below_drewN | apply below_drew1) | exact HB.out)) hb); clear HB; have HB := n0_; clear n0_; (try clear hb); (try clear hb2); (try clear hk); (try clear hi)))
    go_ret
    exact ⟨by first | rfl | (simp [errW_none, errW_some] <;> rfl) | (simp [*, errW_none, errW_some] <;> rfl), by repeat (first | (with_reducible first | exact HB.out | apply below_alloc | apply pw_below_drewN | apply below_drew1) | exact HB.out)⟩
  · rw [if_neg c2] at H
    have c2b0 : (t104 == 17) = false := beq_eq_false_iff_ne.mpr c2
    have c2b1 : (t104 != 17) = true := bne_iff_ne.mpr c2
    obtain rfl := Option.some.inj H
    go_enter Tryd.func9, Tryd.ntmps9
    go_wp2_with (first | ((with_reducible refine gate_callee (f := 16) rfl ?_); refine goesL_ (some 4) rfl rfl Tryd.func16 (by kernel_rfl) rfl #[.int .i64 (-9223372036854775808)] rfl (by (try simp only [List.map_toArray, List.map_cons, List.map_nil]); first | done | rfl | (simp only [List.length_drop, List.length_take]; rfl)) ?_; (with_reducible refine (num_Neg.calls (-9223372036854775808) t103 t104 _ A1.out).mono ?_); rintro e w' ⟨rfl, ⟨nd, rfl⟩⟩; refine ⟨_, rfl, ?_⟩))
    go_ret
    exact ⟨by first | rfl | (simp [errW_none, errW_some] <;> rfl) | (simp [*, errW_none, errW_some] <;> rfl), by repeat (first | (with_reducible first | exact HB.out | apply below_alloc | apply pw_below_drewN | apply below_drew1) | exact HB.out)⟩

/-! ### num_Mul: function 14 -/
def num_Mul.j0 : Nat → Int → Int → Bool → Option (Int × Int)
  | 0, _, _, _ => none
  | k + 1, x0, x1, x12 => if x12 = true then (some (0, 0)) else (if x0 = (-1) then (if x1 = (-9223372036854775808) then (some (0, 17)) else (if x1 = (-1) then (if x0 = (-9223372036854775808) then (some (0, 17)) else (if x1 = 0 then (none) else (if (wrap64 (Int.tdiv (wrap64 (x0 * x1)) x1)) = x0 then (some (wrap64 (x0 * x1), 0)) else (some (0, 17))))) else (if x1 = 0 then (none) else (if (wrap64 (Int.tdiv (wrap64 (x0 * x1)) x1)) = x0 then (some (wrap64 (x0 * x1), 0)) else (some (0, 17)))))) else (if x1 = (-1) then (if x0 = (-9223372036854775808) then (some (0, 17)) else (if x1 = 0 then (none) else (if (wrap64 (Int.tdiv (wrap64 (x0 * x1)) x1)) = x0 then (some (wrap64 (x0 * x1), 0)) else (some (0, 17))))) else (if x1 = 0 then (none) else (if (wrap64 (Int.tdiv (wrap64 (x0 * x1)) x1)) = x0 then (some (wrap64 (x0 * x1), 0)) else (some (0, 17))))))
def num_Mul.f (k : Nat) (a0 : Int) (a1 : Int) : Option (Int × Int) := if a0 = 0 then (num_Mul.j0 k a0 a1 true) else (num_Mul.j0 k a0 a1 (a1 == 0))
theorem num_Mul.mono_l : ∀ k, (∀ y0 y1 y2, LeO (num_Mul.j0 k y0 y1 y2) (num_Mul.j0 (k + 1) y0 y1 y2))
  | 0 => fun _ _ _ r h => by simp [num_Mul.j0] at h
  | k + 1 => by
    have ih0 := num_Mul.mono_l k
    · intro y0 y1 y2
      unfold num_Mul.j0
      repeat' first
      | (with_reducible exact ih0 _ _ _)
      | (with_reducible exact LeO.refl _)
      | (with_reducible exact LeO.none _)
      | (with_reducible refine LeO.ite ?_ ?_)
      | (with_reducible refine LeO.bind ?_ (fun _ => ?_))
      | exact ih0 _ _ _
      | exact LeO.none _
      | refine LeO.ite ?_ ?_
      | refine LeO.bind ?_ (fun _ => ?_)
theorem num_Mul.mono : ∀ a0 a1 k, LeO (num_Mul.f k a0 a1) (num_Mul.f (k + 1) a0 a1) := by
  intro a0 a1 k
  have ih0 := num_Mul.mono_l k
  unfold num_Mul.f
  repeat' first
      | (with_reducible exact ih0 _ _ _)
      | (with_reducible exact LeO.refl _)
      | (with_reducible exact LeO.none _)
      | (with_reducible refine LeO.ite ?_ ?_)
      | (with_reducible refine LeO.bind ?_ (fun _ => ?_))
      | exact ih0 _ _ _
      | exact LeO.none _
      | refine LeO.ite ?_ ?_
      | refine LeO.bind ?_ (fun _ => ?_)
set_option maxHeartbeats 8000000 in
set_option maxRecDepth 100000 in
theorem num_Mul.calls (k : Nat) (a0 : Int) (a1 : Int) (r1 : Int) (r2 : Int) (w : World) (h : num_Mul.f k a0 a1 = some (r1, r2)) :
    Calls Tryd.prog 14 #[.int .i64 a0, .int .i64 a1] w fun e w' => e = .returned (.tuple #[.int .i64 r1, .int .i64 r2]) ∧ Drawn0 w w' := by
  have H : (if a0 = 0 then (num_Mul.j0 k a0 a1 true) else (num_Mul.j0 k a0 a1 (a1 == 0))) = some (r1, r2) := h
  clear h
  have HC3 := Aside0.mk H
  clear H
  go_enter Tryd.func14, Tryd.ntmps14
  go_upto_region 1 with (fail)
  go_cut [12] (fun v12 wc => ∃ (kq : Nat) (x12_2 : Bool), v12 = .bool x12_2 ∧ Aside0 (num_Mul.j0 kq a0 a1 x12_2 = some (r1, r2)) ∧ Aside0 (kq ≤ k) ∧ Drawn0 w wc)
  case first =>
    have H := HC3.out
    clear HC3
    by_cases c4 : a0 = 0
    · rw [if_pos c4] at H
      have c4b0 : (a0 == 0) = true := beq_iff_eq.mpr c4
      have c4b1 : (a0 != 0) = false := bne_eq_false_iff_eq.mpr c4
      clear c4
      (first | rw [c4b0] | (simp only [i64_w, i32_w]; rw [c4b0]) | skip)
      have H' := Aside0.mk H
      clear H
      go_wp2
      go_meet
      case rel => exact ⟨_, (true), (by first | rfl | (simp; done) | (simp [*]; done)), H', ⟨by first | omega | exact Nat.le_refl _⟩, by repeat (first | exact Drawn0.refl _ | apply Drawn0.step)⟩
    · rw [if_neg c4] at H
      have c4b0 : (a0 == 0) = false := beq_eq_false_iff_ne.mpr c4
      have c4b1 : (a0 != 0) = true := bne_iff_ne.mpr c4
      (first | rw [c4b0] | (simp only [i64_w, i32_w]; rw [c4b0]) | skip)
      have H' := Aside0.mk H
      clear H
      go_wp2
      go_meet
      case rel => exact ⟨_, ((a1 == 0)), (by first | rfl | (simp; done) | (simp [*]; done)), H', ⟨by first | omega | exact Nat.le_refl _⟩, by repeat (first | exact Drawn0.refl _ | apply Drawn0.step)⟩
  case rest =>
    clear HC3
    try clear c1
    try clear p2
    try clear c4
    try clear c4b0
    try clear c4b1
    obtain ⟨kq, x12_2, rfl, HA, HJ2, ⟨mc2, rfl⟩⟩ := hcut
    cases kq with
    | zero => exact absurd HA.out (by simp [num_Mul.j0])
    | succ kj2 =>
      have H := HA.out
      clear HA
      simp only [num_Mul.j0] at H
      by_cases c5 : x12_2 = true
      · subst c5
        have H1 : (some (0, 0)) = some (r1, r2) := by rw [if_pos rfl] at H; exact H
        clear H
        have H := H1
        clear H1
        simp only [Option.some.injEq, Prod.mk.injEq] at H
        obtain ⟨rfl, rfl⟩ := H
        go_wp2
        go_ret2
        exact ⟨by first | rfl | (simp; done) | (simp [*]; done), by repeat (first | exact Drawn0.refl _ | apply Drawn0.step)⟩
      · replace c5 := Bool.eq_false_iff.mpr c5
        subst c5
        have H1 : (if a0 = (-1) then (if a1 = (-9223372036854775808) then (some (0, 17)) else (if a1 = (-1) then (if a0 = (-9223372036854775808) then (some (0, 17)) else (if a1 = 0 then (none) else (if (wrap64 (Int.tdiv (wrap64 (a0 * a1)) a1)) = a0 then (some (wrap64 (a0 * a1), 0)) else (some (0, 17))))) else (if a1 = 0 then (none) else (if (wrap64 (Int.tdiv (wrap64 (a0 * a1)) a1)) = a0 then (some (wrap64 (a0 * a1), 0)) else (some (0, 17)))))) else (if a1 = (-1) then (if a0 = (-9223372036854775808) then (some (0, 17)) else (if a1 = 0 then (none) else (if (wrap64 (Int.tdiv (wrap64 (a0 * a1)) a1)) = a0 then (some (wrap64 (a0 * a1), 0)) else (some (0, 17))))) else (if a1 = 0 then (none) else (if (wrap64 (Int.tdiv (wrap64 (a0 * a1)) a1)) = a0 then (some (wrap64 (a0 * a1), 0)) else (some (0, 17)))))) = some (r1, r2) := by rw [if_neg (show ¬ (false = true) by decide)] at H; exact H
        clear H
        have H := H1
        clear H1
        by_cases c6 : a0 = (-1)
        · rw [if_pos c6] at H
          have c6b0 : (a0 == (-1)) = true := beq_iff_eq.mpr c6
          have c6b1 : (a0 != (-1)) = false := bne_eq_false_iff_eq.mpr c6
          clear c6
          by_cases c7 : a1 = (-9223372036854775808)
          · rw [if_pos c7] at H
            have c7b0 : (a1 == (-9223372036854775808)) = true := beq_iff_eq.mpr c7
            have c7b1 : (a1 != (-9223372036854775808)) = false := bne_eq_false_iff_eq.mpr c7
            clear c7
            simp only [Option.some.injEq, Prod.mk.injEq] at H
            obtain ⟨rfl, rfl⟩ := H
            go_wp2
            go_ret2
            exact ⟨by first | rfl | (simp; done) | (simp [*]; done), by repeat (first | exact Drawn0.refl _ | apply Drawn0.step)⟩
          · rw [if_neg c7] at H
            have c7b0 : (a1 == (-9223372036854775808)) = false := beq_eq_false_iff_ne.mpr c7
            have c7b1 : (a1 != (-9223372036854775808)) = true := bne_iff_ne.mpr c7
            by_cases c8 : a1 = (-1)
            · rw [if_pos c8] at H
              have c8b0 : (a1 == (-1)) = true := beq_iff_eq.mpr c8
              have c8b1 : (a1 != (-1)) = false := bne_eq_false_iff_eq.mpr c8
              clear c8
              by_cases c9 : a0 = (-9223372036854775808)
              · rw [if_pos c9] at H
                have c9b0 : (a0 == (-9223372036854775808)) = true := beq_iff_eq.mpr c9
                have c9b1 : (a0 != (-9223372036854775808)) = false := bne_eq_false_iff_eq.mpr c9
                clear c9
                simp only [Option.some.injEq, Prod.mk.injEq] at H
                obtain ⟨rfl, rfl⟩ := H
                go_wp2
                go_ret2
                exact ⟨by first | rfl | (simp; done) | (simp [*]; done), by repeat (first | exact Drawn0.refl _ | apply Drawn0.step)⟩
              · rw [if_neg c9] at H
                have c9b0 : (a0 == (-9223372036854775808)) = false := beq_eq_false_iff_ne.mpr c9
                have c9b1 : (a0 != (-9223372036854775808)) = true := bne_iff_ne.mpr c9
                by_cases c10 : a1 = 0
                · rw [if_pos c10] at H
                  exact absurd H (by simp)
                · rw [if_neg c10] at H
                  have c10b0 : (a1 == 0) = false := beq_eq_false_iff_ne.mpr c10
                  have c10b1 : (a1 != 0) = true := bne_iff_ne.mpr c10
                  by_cases c11 : (wrap64 (Int.tdiv (wrap64 (a0 * a1)) a1)) = a0
                  · rw [if_pos c11] at H
                    have c11b0 : ((wrap64 (Int.tdiv (wrap64 (a0 * a1)) a1)) == a0) = true := beq_iff_eq.mpr c11
                    have c11b1 : ((wrap64 (Int.tdiv (wrap64 (a0 * a1)) a1)) != a0) = false := bne_eq_false_iff_eq.mpr c11
                    clear c11
                    simp only [Option.some.injEq, Prod.mk.injEq] at H
                    obtain ⟨rfl, rfl⟩ := H
                    go_wp2
                    go_ret2
                    exact ⟨by first | rfl | (simp; done) | (simp [*]; done), by repeat (first | exact Drawn0.refl _ | apply Drawn0.step)⟩
                  · rw [if_neg c11] at H
                    have c11b0 : ((wrap64 (Int.tdiv (wrap64 (a0 * a1)) a1)) == a0) = false := beq_eq_false_iff_ne.mpr c11
                    have c11b1 : ((wrap64 (Int.tdiv (wrap64 (a0 * a1)) a1)) != a0) = true := bne_iff_ne.mpr c11
                    simp only [Option.some.injEq, Prod.mk.injEq] at H
                    obtain ⟨rfl, rfl⟩ := H
                    go_wp2
                    go_ret2
                    exact ⟨by first | rfl | (simp; done) | (simp [*]; done), by repeat (first | exact Drawn0.refl _ | apply Drawn0.step)⟩
            · rw [if_neg c8] at H
              have c8b0 : (a1 == (-1)) = false := beq_eq_false_iff_ne.mpr c8
              have c8b1 : (a1 != (-1)) = true := bne_iff_ne.mpr c8
              by_cases c12 : a1 = 0
              · rw [if_pos c12] at H
                exact absurd H (by simp)
              · rw [if_neg c12] at H
                have c12b0 : (a1 == 0) = false := beq_eq_false_iff_ne.mpr c12
                have c12b1 : (a1 != 0) = true := bne_iff_ne.mpr c12
                by_cases c13 : (wrap64 (Int.tdiv (wrap64 (a0 * a1)) a1)) = a0
                · rw [if_pos c13] at H
                  have c13b0 : ((wrap64 (Int.tdiv (wrap64 (a0 * a1)) a1)) == a0) = true := beq_iff_eq.mpr c13
                  have c13b1 : ((wrap64 (Int.tdiv (wrap64 (a0 * a1)) a1)) != a0) = false := bne_eq_false_iff_eq.mpr c13
                  clear c13
                  simp only [Option.some.injEq, Prod.mk.injEq] at H
                  obtain ⟨rfl, rfl⟩ := H
                  go_wp2
                  go_ret2
                  exact ⟨by first | rfl | (simp; done) | (simp [*]; done), by repeat (first | exact Drawn0.refl _ | apply Drawn0.step)⟩
                · rw [if_neg c13] at H
                  have c13b0 : ((wrap64 (Int.tdiv (wrap64 (a0 * a1)) a1)) == a0) = false := beq_eq_false_iff_ne.mpr c13
                  have c13b1 : ((wrap64 (Int.tdiv (wrap64 (a0 * a1)) a1)) != a0) = true := bne_iff_ne.mpr c13
                  simp only [Option.some.injEq, Prod.mk.injEq] at H
                  obtain ⟨rfl, rfl⟩ := H
                  go_wp2
                  go_ret2
                  exact ⟨by first | rfl | (simp; done) | (simp [*]; done), by repeat (first | exact Drawn0.refl _ | apply Drawn0.step)⟩
        · rw [if_neg c6] at H
          have c6b0 : (a0 == (-1)) = false := beq_eq_false_iff_ne.mpr c6
          have c6b1 : (a0 != (-1)) = true := bne_iff_ne.mpr c6
          by_cases c14 : a1 = (-1)
          · rw [if_pos c14] at H
            have c14b0 : (a1 == (-1)) = true := beq_iff_eq.mpr c14
            have c14b1 : (a1 != (-1)) = false := bne_eq_false_iff_eq.mpr c14
            clear c14
            by_cases c15 : a0 = (-9223372036854775808)
            · rw [if_pos c15] at H
              have c15b0 : (a0 == (-9223372036854775808)) = true := beq_iff_eq.mpr c15
              have c15b1 : (a0 != (-9223372036854775808)) = false := bne_eq_false_iff_eq.mpr c15
              clear c15
              simp only [Option.some.injEq, Prod.mk.injEq] at H
              obtain ⟨rfl, rfl⟩ := H
              go_wp2
              go_ret2
              exact ⟨by first | rfl | (simp; done) | (simp [*]; done), by repeat (first | exact Drawn0.refl _ | apply Drawn0.step)⟩
            · rw [if_neg c15] at H
              have c15b0 : (a0 == (-9223372036854775808)) = false := beq_eq_false_iff_ne.mpr c15
              have c15b1 : (a0 != (-9223372036854775808)) = true := bne_iff_ne.mpr c15
              by_cases c16 : a1 = 0
              · rw [if_pos c16] at H
                exact absurd H (by simp)
              · rw [if_neg c16] at H
                have c16b0 : (a1 == 0) = false := beq_eq_false_iff_ne.mpr c16
                have c16b1 : (a1 != 0) = true := bne_iff_ne.mpr c16
                by_cases c17 : (wrap64 (Int.tdiv (wrap64 (a0 * a1)) a1)) = a0
                · rw [if_pos c17] at H
                  have c17b0 : ((wrap64 (Int.tdiv (wrap64 (a0 * a1)) a1)) == a0) = true := beq_iff_eq.mpr c17
                  have c17b1 : ((wrap64 (Int.tdiv (wrap64 (a0 * a1)) a1)) != a0) = false := bne_eq_false_iff_eq.mpr c17
                  clear c17
                  simp only [Option.some.injEq, Prod.mk.injEq] at H
                  obtain ⟨rfl, rfl⟩ := H
                  go_wp2
                  go_ret2
                  exact ⟨by first | rfl | (simp; done) | (simp [*]; done), by repeat (first | exact Drawn0.refl _ | apply Drawn0.step)⟩
                · rw [if_neg c17] at H
                  have c17b0 : ((wrap64 (Int.tdiv (wrap64 (a0 * a1)) a1)) == a0) = false := beq_eq_false_iff_ne.mpr c17
                  have c17b1 : ((wrap64 (Int.tdiv (wrap64 (a0 * a1)) a1)) != a0) = true := bne_iff_ne.mpr c17
                  simp only [Option.some.injEq, Prod.mk.injEq] at H
                  obtain ⟨rfl, rfl⟩ := H
                  go_wp2
                  go_ret2
                  exact ⟨by first | rfl | (simp; done) | (simp [*]; done), by repeat (first | exact Drawn0.refl _ | apply Drawn0.step)⟩
          · rw [if_neg c14] at H
            have c14b0 : (a1 == (-1)) = false := beq_eq_false_iff_ne.mpr c14
            have c14b1 : (a1 != (-1)) = true := bne_iff_ne.mpr c14
            by_cases c18 : a1 = 0
            · rw [if_pos c18] at H
              exact absurd H (by simp)
            · rw [if_neg c18] at H
              have c18b0 : (a1 == 0) = false := beq_eq_false_iff_ne.mpr c18
              have c18b1 : (a1 != 0) = true := bne_iff_ne.mpr c18
              by_cases c19 : (wrap64 (Int.tdiv (wrap64 (a0 * a1)) a1)) = a0
              · rw [if_pos c19] at H
                have c19b0 : ((wrap64 (Int.tdiv (wrap64 (a0 * a1)) a1)) == a0) = true := beq_iff_eq.mpr c19
                have c19b1 : ((wrap64 (Int.tdiv (wrap64 (a0 * a1)) a1)) != a0) = false := bne_eq_false_iff_eq.mpr c19
                clear c19
                simp only [Option.some.injEq, Prod.mk.injEq] at H
                obtain ⟨rfl, rfl⟩ := H
                go_wp2
                go_ret2
                exact ⟨by first | rfl | (simp; done) | (simp [*]; done), by repeat (first | exact Drawn0.refl _ | apply Drawn0.step)⟩
              · rw [if_neg c19] at H
                have c19b0 : ((wrap64 (Int.tdiv (wrap64 (a0 * a1)) a1)) == a0) = false := beq_eq_false_iff_ne.mpr c19
                have c19b1 : ((wrap64 (Int.tdiv (wrap64 (a0 * a1)) a1)) != a0) = true := bne_iff_ne.mpr c19
                simp only [Option.some.injEq, Prod.mk.injEq] at H
                obtain ⟨rfl, rfl⟩ := H
                go_wp2
                go_ret2
                exact ⟨by first | rfl | (simp; done) | (simp [*]; done), by repeat (first | exact Drawn0.refl _ | apply Drawn0.step)⟩

/-! ### num_Add: function 10 -/
def num_Add.f (a0 : Int) (a1 : Int) : Option (Int × Int) := if a1 = 0 then (some (wrap64 (a0 + a1), 0)) else (if ((decide ((wrap64 (a0 + a1)) > a0)) == (decide (a1 > 0))) = true then (some (wrap64 (a0 + a1), 0)) else (some (0, 17)))
set_option maxHeartbeats 8000000 in
set_option maxRecDepth 100000 in
theorem num_Add.calls (a0 : Int) (a1 : Int) (r1 : Int) (r2 : Int) (w : World) (h : num_Add.f a0 a1 = some (r1, r2)) :
    Calls Tryd.prog 10 #[.int .i64 a0, .int .i64 a1] w fun e w' => e = .returned (.tuple #[.int .i64 r1, .int .i64 r2]) ∧ Drawn0 w w' := by
  have H : (if a1 = 0 then (some (wrap64 (a0 + a1), 0)) else (if ((decide ((wrap64 (a0 + a1)) > a0)) == (decide (a1 > 0))) = true then (some (wrap64 (a0 + a1), 0)) else (some (0, 17)))) = some (r1, r2) := h
  clear h
  by_cases c3 : a1 = 0
  · rw [if_pos c3] at H
    have c3b0 : (a1 == 0) = true := beq_iff_eq.mpr c3
    have c3b1 : (a1 != 0) = false := bne_eq_false_iff_eq.mpr c3
    clear c3
    simp only [Option.some.injEq, Prod.mk.injEq] at H
    obtain ⟨rfl, rfl⟩ := H
    go_enter Tryd.func10, Tryd.ntmps10
    go_wp2
    go_ret2
    exact ⟨by first | rfl | (simp; done) | (simp [*]; done), by repeat (first | exact Drawn0.refl _ | apply Drawn0.step)⟩
  · rw [if_neg c3] at H
    have c3b0 : (a1 == 0) = false := beq_eq_false_iff_ne.mpr c3
    have c3b1 : (a1 != 0) = true := bne_iff_ne.mpr c3
    by_cases c4 : ((decide ((wrap64 (a0 + a1)) > a0)) == (decide (a1 > 0))) = true
    · rw [if_pos c4] at H
      have c4b0 : ((decide ((wrap64 (a0 + a1)) > a0)) == (decide (a1 > 0))) = true := c4
      (try (have c4b1 : decide ((decide ((wrap64 (a0 + a1)) > a0)) = (decide (a1 > 0))) = true := by simpa using c4))
      (try (have c4b2 : ((decide ((wrap64 (a0 + a1)) > a0)) == (decide (a1 > 0))) = true := by simpa using c4))
      clear c4
      simp only [Option.some.injEq, Prod.mk.injEq] at H
      obtain ⟨rfl, rfl⟩ := H
      go_enter Tryd.func10, Tryd.ntmps10
      go_wp2
      go_ret2
      exact ⟨by first | rfl | (simp; done) | (simp [*]; done), by repeat (first | exact Drawn0.refl _ | apply Drawn0.step)⟩
    · rw [if_neg c4] at H
      have c4b0 : ((decide ((wrap64 (a0 + a1)) > a0)) == (decide (a1 > 0))) = false := by simpa using c4
      (try (have c4b1 : decide ((decide ((wrap64 (a0 + a1)) > a0)) = (decide (a1 > 0))) = false := by simpa using c4))
      (try (have c4b2 : ((decide ((wrap64 (a0 + a1)) > a0)) == (decide (a1 > 0))) = false := by simpa using c4))
      (try (have c4b3 : ¬ ((decide ((wrap64 (a0 + a1)) > a0)) = (decide (a1 > 0))) := by simpa using c4))
      clear c4
      simp only [Option.some.injEq, Prod.mk.injEq] at H
      obtain ⟨rfl, rfl⟩ := H
      go_enter Tryd.func10, Tryd.ntmps10
      go_wp2
      go_ret2
      exact ⟨by first | rfl | (simp; done) | (simp [*]; done), by repeat (first | exact Drawn0.refl _ | apply Drawn0.step)⟩

/-! ### num_Parse: function 19, given -/
/-- Is it a digit? -/
def isDig (c : UInt8) : Bool := 48 ≤ c.toNat && c.toNat ≤ 57
/-- The digits, one by one. -/
def num_Parse.go : List UInt8 → Int → Option (Int × Int)
  | [], n => some (n, 0)
  | c :: l, n => (num_Mul.f 1 n 10).bind fun t => if t.2 = 0 then (num_Add.f t.1 ((c.toNat : Int) - 48)).bind fun u => (if u.2 = 0 then num_Parse.go l u.1 else some (0, u.2)) else some (0, t.2)
def num_Parse.f (a0 : ByteArray) : Option (Int × Int) :=
  if a0.size > 9223372036854775807 then none else
  if a0.size = 0 then some (0, 12) else if bt a0 0 = 48 ∧ 1 < a0.size then some (0, 12) else
  if a0.data.toList.all isDig = true then num_Parse.go a0.data.toList 0 else some (0, 12)
theorem num_Parse.dig_at {s : ByteArray} (h : s.data.toList.all isDig = true) (i : Nat) (hi : i < s.size) : 48 ≤ (s[i]'hi).toNat ∧ (s[i]'hi).toNat ≤ 57 := by
  rw [List.all_eq_true] at h
  have := h (s[i]'hi) (by show (s.data[i]) ∈ s.data.toList; simp)
  simpa [isDig] using this
theorem num_Parse.take_all {s : ByteArray} (i : Nat) (hi : i < s.size) (h : (s.data.toList.take i).all isDig = true) (hd : isDig (s[i]'hi) = true) : (s.data.toList.take (i + 1)).all isDig = true := by
  rw [List.take_succ_eq_append_getElem (by simpa using hi), List.all_append, h, Bool.true_and, List.all_cons, List.all_nil, Bool.and_true]
  exact hd
theorem num_Parse.drop_at {s : ByteArray} (i : Nat) (hi : i < s.size) : s.data.toList.drop i = (s[i]'hi) :: s.data.toList.drop (i + 1) := by
  rw [List.drop_eq_getElem_cons (by simpa using hi)]
  rfl
set_option maxHeartbeats 2000000 in
theorem num_Parse.calls (a0 : ByteArray) (r1 : Int) (r2 : Int) (w : World) (h : num_Parse.f a0 = some (r1, r2)) :
    Calls Tryd.prog 19 #[.string a0] w fun e w' => e = .returned (.tuple #[.int .i64 r1, .int .i64 r2]) ∧ Below w.heap.size w w' := by
  unfold num_Parse.f at h
  by_cases hz : a0.size > 9223372036854775807
  · rw [if_pos hz] at h; cases h
  rw [if_neg hz] at h
  by_cases h0 : a0.size = 0
  · rw [if_pos h0] at h
    simp only [Option.some.injEq, Prod.mk.injEq] at h
    obtain ⟨rfl, rfl⟩ := h
    have : a0 = ByteArray.empty := by cases a0 with | mk d => simp [ByteArray.size] at h0; subst h0; rfl
    subst this
    clear hz h0
    go_enter Tryd.func19, Tryd.ntmps19
    go_wp2
    go_ret2
    exact ⟨rfl, Below.refl _ _⟩
  rw [if_neg h0] at h
  have hpos : 0 < a0.size := by omega
  have hb0 : ((a0[0]'hpos).toNat : Int) = bt a0 0 := by simp [bt, hpos]
  have he : a0.toList.isEmpty = false := by
    cases hl : a0.toList with
    | nil => have := congrArg List.length hl; rw [Lib.toList_data, Array.length_toList] at this; exact absurd this (show ¬ a0.size = 0 by omega)
    | cons _ _ => rfl
  have he2 : ¬ a0.toList = [] := by intro e; rw [e] at he; cases he
  by_cases h48 : bt a0 0 = 48 ∧ 1 < a0.size
  · rw [if_pos h48] at h
    simp only [Option.some.injEq, Prod.mk.injEq] at h
    obtain ⟨rfl, rfl⟩ := h
    have h1 : (((a0[0]'hpos).toNat : Int) == 48) = true := by rw [hb0]; simp [h48.1]
    have h2 : decide (1 < (a0.size : Int)) = true := decide_eq_true (by omega)
    clear hz h0 h48 hb0
    go_enter Tryd.func19, Tryd.ntmps19
    go_wp2
    go_ret2
    exact ⟨rfl, Below.refl _ _⟩
  rw [if_neg h48] at h
  have HH := Lib.hid h
  clear h
  have hsz : a0.size ≤ 9223372036854775807 := by omega
  have hcase : (((a0[0]'hpos).toNat : Int) == 48) = false ∨ ((((a0[0]'hpos).toNat : Int) == 48) = true ∧ decide (1 < (a0.size : Int)) = false) := by
    rw [hb0]
    by_cases e : bt a0 0 = 48
    · right
      exact ⟨by simp [e], decide_eq_false (fun e1 => h48 ⟨e, by omega⟩)⟩
    · left
      simpa using e
  clear hz h0 h48 hb0
  rcases hcase with h1 | ⟨h1, h2⟩
  all_goals
    go_enter Tryd.func19, Tryd.ntmps19
    go_wp2
    go_loopw [] (fun wr => ∃ pos : Nat, pos ≤ a0.size ∧ Hid ((a0.data.toList.take pos).all isDig = true) ∧ wr = w.iter a0 pos) (fun wr => a0.size - wr.iterPos w.heap.size)
    case atStart => exact ⟨0, by omega, Lib.hid rfl, rfl⟩
    case round =>
      obtain ⟨pos, hp, HD, rfl⟩ := hrel
      clear h1 he he2
      try clear h2
      by_cases hlt : pos < a0.size
      · have hge : 128 ≤ (a0[pos]'hlt).toNat ∨ (a0[pos]'hlt).toNat < 128 := by omega
        have hnx := fun ty => Lib.run_next_any_at (P := Tryd.prog) (w.iter a0 pos) w.heap.size a0 pos ty (World.iter_heap _ _ _) hlt
        have hset : (w.iter a0 pos).iterAt w.heap.size a0 (pos + (Utf8.decode a0 pos).2) = w.iter a0 (pos + (Utf8.decode a0 pos).2) := World.iter_set _ _ _ _
        rw [hset] at hnx
        clear hset
        have hdig : (48 ≤ ((Utf8.decode a0 pos).1 : Int) ∧ ((Utf8.decode a0 pos).1 : Int) ≤ 57) → isDig (a0[pos]'hlt) = true ∧ (Utf8.decode a0 pos).2 = 1 := by
          intro hc
          rcases hge with hg | hg
          · have := (decode_high a0 pos hlt hg).1
            omega
          · rw [decode_ascii a0 pos hlt hg] at hc ⊢
            exact ⟨by simp [isDig]; simp at hc; omega, rfl⟩
        have hno : ¬ (48 ≤ ((Utf8.decode a0 pos).1 : Int) ∧ ((Utf8.decode a0 pos).1 : Int) ≤ 57) → ¬ a0.data.toList.all isDig = true := by
          intro hc e
          have hd := num_Parse.dig_at e pos hlt
          rw [decode_ascii a0 pos hlt (by omega)] at hc
          exact hc ⟨by simp; omega, by simp; omega⟩
        obtain ⟨c, hc⟩ : ∃ c : Int, ((Utf8.decode a0 pos).1 : Int) = c := ⟨_, rfl⟩
        obtain ⟨q, hq⟩ : ∃ q : Nat, (Utf8.decode a0 pos).2 = q := ⟨_, rfl⟩
        rw [hc] at hnx hdig hno
        rw [hq] at hnx hdig
        clear hc hq hge
        by_cases hdg : 48 ≤ c ∧ c ≤ 57
        · obtain ⟨hd1, rfl⟩ := hdig hdg
          have HD2 := Lib.hid (num_Parse.take_all pos hlt HD.out hd1)
          have hc1 := hdg.1
          have hc2 := hdg.2
          clear hdg HD hd1 hno hdig
          go_wp2
          go_roundw
          case rel => exact ⟨pos + 1, by omega, HD2, rfl⟩
          case measure => simp only [World.iterPos_iter]; omega
        · have h12 := HH.out
          rw [if_neg (hno hdg)] at h12
          simp only [Option.some.injEq, Prod.mk.injEq] at h12
          obtain ⟨rfl, rfl⟩ := h12
          clear HH HD hno hdig
          go_wp2
          all_goals
            go_ret2
            exact ⟨rfl, (Below.refl _ _).alloc (Nat.le_refl _) _⟩
      · obtain rfl : pos = a0.size := by omega
        have hall : a0.data.toList.all isDig = true := by
          have := HD.out
          rwa [List.take_of_length_le (by simp)] at this
        have h12 := HH.out
        rw [if_pos hall] at h12
        have HG := Lib.hid h12
        have HA := Lib.hid hall
        have hbw : Below w.heap.size w (w.iter a0 a0.size) := (Below.refl _ _).alloc (Nat.le_refl _) _
        have hnx := fun ty => Lib.run_next_end_at (P := Tryd.prog) (w.iter a0 a0.size) w.heap.size a0 a0.size ty (World.iter_heap _ _ _) hlt
        clear HD HH h12 hall hlt hp
        obtain ⟨wo, hwo⟩ : ∃ wo : World, wo = w.iter a0 a0.size := ⟨_, rfl⟩
        rw [← hwo] at hnx hbw ⊢
        have HW := Lib.hid hwo
        clear hwo
        go_wp2
        go_loopw [6] (fun n wr => ∃ (pos : Nat) (m : Int), pos ≤ a0.size ∧ n = .int .i64 m ∧ Hid (num_Parse.go (a0.data.toList.drop pos) m = some (r1, r2)) ∧ Hid (wr.heap[wo.heap.size]? = some (.stringIter a0 pos)) ∧ Below wo.heap.size wo wr) (fun _ wr => a0.size - wr.iterPos wo.heap.size)
        case atStart => exact ⟨0, 0, by omega, rfl, by rw [List.drop_zero]; exact HG, Lib.hid (World.iter_heap _ _ _), (Below.refl _ _).alloc (Nat.le_refl _) _⟩
        case round =>
          obtain ⟨pos, m, hp, rfl, HGo, hit, hb⟩ := hrel
          clear hnx HG
          have hmeas : wr.iterPos wo.heap.size = pos := by simp [World.iterPos, hit.out]
          have HM := Lib.hid hmeas
          clear hmeas
          by_cases hlt : pos < a0.size
          · have hdg := num_Parse.dig_at HA.out pos hlt
            have hnx := fun ty => Lib.run_next_ascii_at (P := Tryd.prog) wr wo.heap.size a0 pos ty hit.out hlt (by omega)
            have hit2 := Lib.hid (Lib.iterAt_heap wr wo.heap.size a0 pos (pos + 1) hit.out)
            have hb2 := Lib.below_iterAt hb (k := wo.heap.size) (Nat.le_refl _) a0 (pos + 1)
            have hgo := HGo.out
            rw [num_Parse.drop_at pos hlt] at hgo
            simp only [num_Parse.go] at hgo
            clear hit hb HGo
            generalize wr.iterAt wo.heap.size a0 (pos + 1) = wn at hnx hit2 hb2
            obtain ⟨c, hc⟩ : ∃ c : Int, ((a0[pos]'hlt).toNat : Int) = c := ⟨_, rfl⟩
            rw [hc] at hnx hgo
            have hc1 : 48 ≤ c := by omega
            have hc2 : c ≤ 57 := by omega
            clear hc hdg
            obtain ⟨⟨t1, t2⟩, hA, hgo⟩ := Option.bind_eq_some_iff.mp hgo
            have HA2 := Lib.hid hA
            clear hA
            by_cases ht : t2 = 0
            · subst ht
              rw [if_pos rfl] at hgo
              obtain ⟨⟨u1, u2⟩, hA, hgo⟩ := Option.bind_eq_some_iff.mp hgo
              have HA3 := Lib.hid hA
              clear hA
              by_cases hu : u2 = 0
              · subst hu
                rw [if_pos rfl] at hgo
                have HG2 := Lib.hid hgo
                clear hgo
                go_wp2_with (first | (go_at_call 14; (with_reducible refine (num_Mul.calls 1 m 10 t1 0 _ HA2.out).mono ?_); rintro e w' ⟨rfl, ⟨nd, rfl⟩⟩) | (go_at_call 10; (with_reducible refine (num_Add.calls t1 (c - 48) u1 0 _ HA3.out).mono ?_); rintro e w' ⟨rfl, ⟨nd, rfl⟩⟩))
                go_roundw
                case rel => exact ⟨pos + 1, u1, by omega, rfl, HG2, Lib.hid hit2.out, by repeat (first | exact hb2 | apply pw_below_drewN)⟩
                case measure =>
                  have := HM.out
                  have h3 := hit2.out
                  simp only [World.iterPos] at *
                  simp [h3, this]
                  omega
              · rw [if_neg hu] at hgo
                simp only [Option.some.injEq, Prod.mk.injEq] at hgo
                obtain ⟨rfl, rfl⟩ := hgo
                have hu2 : (u2 != 0) = true := bne_iff_ne.mpr hu
                clear hu
                go_wp2_with (first | (go_at_call 14; (with_reducible refine (num_Mul.calls 1 m 10 t1 0 _ HA2.out).mono ?_); rintro e w' ⟨rfl, ⟨nd, rfl⟩⟩) | (go_at_call 10; (with_reducible refine (num_Add.calls t1 (c - 48) u1 u2 _ HA3.out).mono ?_); rintro e w' ⟨rfl, ⟨nd, rfl⟩⟩))
                go_ret2
                exact ⟨rfl, hbw.trans (Below.mono (by repeat (first | exact hb2 | apply pw_below_drewN)) hbw.size)⟩
            · rw [if_neg ht] at hgo
              simp only [Option.some.injEq, Prod.mk.injEq] at hgo
              obtain ⟨rfl, rfl⟩ := hgo
              have ht2 : (t2 != 0) = true := bne_iff_ne.mpr ht
              clear ht
              go_wp2_with (first | (go_at_call 14; (with_reducible refine (num_Mul.calls 1 m 10 t1 t2 _ HA2.out).mono ?_); rintro e w' ⟨rfl, ⟨nd, rfl⟩⟩))
              go_ret2
              exact ⟨rfl, hbw.trans (Below.mono (by repeat (first | exact hb2 | apply pw_below_drewN)) hbw.size)⟩
          · obtain rfl : pos = a0.size := by omega
            have hgo := HGo.out
            rw [List.drop_of_length_le (by simp)] at hgo
            simp only [num_Parse.go, Option.some.injEq, Prod.mk.injEq] at hgo
            obtain ⟨rfl, rfl⟩ := hgo
            have hnx := fun ty => Lib.run_next_end_at (P := Tryd.prog) wr wo.heap.size a0 a0.size ty hit.out hlt
            go_wp2
            go_ret2
            exact ⟨rfl, hbw.trans (Below.mono hb hbw.size)⟩

end Go.Proofs.YtlhpkapcehjolaaDoor.GNumT
