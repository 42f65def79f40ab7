-- Written by wip/tools/gprint.py over the kit's printer.
import Derived.Test.YtapccgkkcgggiaaDoorGA0
import Derived.Test.YtapccgkkcgggiaaDoorGA1
import Derived.Test.YtapccgkkcgggiaaDoorGA2
namespace Go.Proofs.YtapccgkkcgggiaaDoor.GA
open Go.RowKit Go.Proofs.YtapccgkkcgggiaaDoorW.PrintWords Go.Proofs.YtapccgkkcgggiaaDoorW.PrintLast Go.Proofs.YtapccgkkcgggiaaDoor.HandA Go.Proofs.YtapccgkkcgggiaaDoorW.PrintMore
attribute [local go_sem] max2_int min2_int max_two min_two max_three min_three max_four min_four   -- for this text's walks alone
set_option linter.unusedVariables false
set_option linter.unusedSimpArgs false

/-! ### chancellaw1_TextLonely: function 5 -/
mutual
def chancellaw1_TextLonely.l0 : Nat → Int → ByteArray → ByteArray → ByteArray → Int → Option (Bool)
  | 0, _, _, _, _, _ => none
  | k + 1, x2, x7, x8, x9, x10 => (chancellaw1_within.f x2 5).bind fun t213 => (if x10 < (wrap64 (1 + t213)) then (if x9.size + 1 ≤ 9223372036854775807 then (chancellaw1_TextLonely.l0 k x2 x7 x8 (x9 ++ (⟨#[42]⟩ : ByteArray)) (wrap64 (x10 + 1))) else (none)) else (chancellaw1_TextLonely.l1 k x7 x8 x9 true 0))
def chancellaw1_TextLonely.l1 : Nat → ByteArray → ByteArray → ByteArray → Bool → Int → Option (Bool)
  | 0, _, _, _, _, _ => none
  | k + 1, x7, x8, x9, x11, x12 => if x12 < (x8.size : Int) then (if x11 = true then (if 0 ≤ x12 then (chancellaw1_TextLonely.l1 k x7 x8 x9 ((bt x8 x12) != 42) (wrap64 (x12 + 1))) else (none)) else (chancellaw1_TextLonely.l1 k x7 x8 x9 false (wrap64 (x12 + 1)))) else (if x11 = true then ((text_Like.f k x7 x8).bind fun t214 => (chancellaw1_TextLonely.j2 k x7 x9 (t214 != (x7.toList == x8.toList)))) else (chancellaw1_TextLonely.j2 k x7 x9 false))
def chancellaw1_TextLonely.j2 : Nat → ByteArray → ByteArray → Bool → Option (Bool)
  | 0, _, _, _ => none
  | k + 1, x7, x9, x50 => if x50 = true then (some false) else ((text_Like.f k x7 x9).bind fun t215 => (if t215 = true then ((text_Like.f k (⟨#[]⟩ : ByteArray) x9).bind fun t216 => (if t216 = true then ((text_Like.f k (⟨#[]⟩ : ByteArray) (⟨#[]⟩ : ByteArray)).bind fun t217 => (if t217 = true then ((text_Like.f k x7 (⟨#[]⟩ : ByteArray)).bind fun t218 => (if (t218 == (x7.toList == ([] : List UInt8))) = true then (if x9.size + 1 ≤ 9223372036854775807 then ((text_Like.f k (⟨#[]⟩ : ByteArray) (x9 ++ (⟨#[97]⟩ : ByteArray))).bind fun t219 => (if t219 = true then (some false) else (if x7.size + 1 ≤ 9223372036854775807 then ((text_Like.f k (x7 ++ (⟨#[97]⟩ : ByteArray)) (x9 ++ (⟨#[97]⟩ : ByteArray))).bind fun t220 => (some t220)) else (none)))) else (none)) else (some false))) else (some false))) else (some false))) else (some false)))
end
def chancellaw1_TextLonely.f (k : Nat) (l0 : List Int) (l1 : List Int) (a2 : Int) : Option (Bool) := (chancellaw1_known.f k).bind fun t210 => (if t210 = true then ((chancellaw1_Of.f k l0).bind fun t211 => ((chancellaw1_Of.f k l1).bind fun t212 => (chancellaw1_TextLonely.l0 k a2 t211 t212 (⟨#[]⟩ : ByteArray) 0))) else (some false))
theorem chancellaw1_TextLonely.mono_l : ∀ k, (∀ y0 y1 y2 y3 y4, LeO (chancellaw1_TextLonely.l0 k y0 y1 y2 y3 y4) (chancellaw1_TextLonely.l0 (k + 1) y0 y1 y2 y3 y4)) ∧ (∀ y0 y1 y2 y3 y4, LeO (chancellaw1_TextLonely.l1 k y0 y1 y2 y3 y4) (chancellaw1_TextLonely.l1 (k + 1) y0 y1 y2 y3 y4)) ∧ (∀ y0 y1 y2, LeO (chancellaw1_TextLonely.j2 k y0 y1 y2) (chancellaw1_TextLonely.j2 (k + 1) y0 y1 y2))
  | 0 => ⟨fun _ _ _ _ _ r h => by simp [chancellaw1_TextLonely.l0] at h, fun _ _ _ _ _ r h => by simp [chancellaw1_TextLonely.l1] at h, fun _ _ _ r h => by simp [chancellaw1_TextLonely.j2] at h⟩
  | k + 1 => by
    obtain ⟨ih0, ih1, ih2⟩ := chancellaw1_TextLonely.mono_l k
    refine ⟨?_, ?_, ?_⟩
    · intro y0 y1 y2 y3 y4
      unfold chancellaw1_TextLonely.l0
      repeat' first
      | (with_reducible exact ih0 _ _ _ _ _)
      | (with_reducible exact ih1 _ _ _ _ _)
      | (with_reducible exact ih2 _ _ _)
      | (with_reducible exact chancellaw1_Of.mono _ _)
      | (with_reducible exact chancellaw1_known.mono _)
      | (with_reducible exact text_Like.mono _ _ _)
      | (with_reducible exact LeO.refl _)
      | (with_reducible exact LeO.none _)
      | (with_reducible refine LeO.ite ?_ ?_)
      | (with_reducible refine LeO.bind ?_ (fun _ => ?_))
      | exact ih0 _ _ _ _ _
      | exact ih1 _ _ _ _ _
      | exact ih2 _ _ _
      | exact chancellaw1_Of.mono _ _
      | exact chancellaw1_known.mono _
      | exact text_Like.mono _ _ _
      | exact LeO.none _
      | refine LeO.ite ?_ ?_
      | refine LeO.bind ?_ (fun _ => ?_)
    · intro y0 y1 y2 y3 y4
      unfold chancellaw1_TextLonely.l1
      repeat' first
      | (with_reducible exact ih0 _ _ _ _ _)
      | (with_reducible exact ih1 _ _ _ _ _)
      | (with_reducible exact ih2 _ _ _)
      | (with_reducible exact chancellaw1_Of.mono _ _)
      | (with_reducible exact chancellaw1_known.mono _)
      | (with_reducible exact text_Like.mono _ _ _)
      | (with_reducible exact LeO.refl _)
      | (with_reducible exact LeO.none _)
      | (with_reducible refine LeO.ite ?_ ?_)
      | (with_reducible refine LeO.bind ?_ (fun _ => ?_))
      | exact ih0 _ _ _ _ _
      | exact ih1 _ _ _ _ _
      | exact ih2 _ _ _
      | exact chancellaw1_Of.mono _ _
      | exact chancellaw1_known.mono _
      | exact text_Like.mono _ _ _
      | exact LeO.none _
      | refine LeO.ite ?_ ?_
      | refine LeO.bind ?_ (fun _ => ?_)
    · intro y0 y1 y2
      unfold chancellaw1_TextLonely.j2
      repeat' first
      | (with_reducible exact ih0 _ _ _ _ _)
      | (with_reducible exact ih1 _ _ _ _ _)
      | (with_reducible exact ih2 _ _ _)
      | (with_reducible exact chancellaw1_Of.mono _ _)
      | (with_reducible exact chancellaw1_known.mono _)
      | (with_reducible exact text_Like.mono _ _ _)
      | (with_reducible exact LeO.refl _)
      | (with_reducible exact LeO.none _)
      | (with_reducible refine LeO.ite ?_ ?_)
      | (with_reducible refine LeO.bind ?_ (fun _ => ?_))
      | exact ih0 _ _ _ _ _
      | exact ih1 _ _ _ _ _
      | exact ih2 _ _ _
      | exact chancellaw1_Of.mono _ _
      | exact chancellaw1_known.mono _
      | exact text_Like.mono _ _ _
      | exact LeO.none _
      | refine LeO.ite ?_ ?_
      | refine LeO.bind ?_ (fun _ => ?_)
theorem chancellaw1_TextLonely.mono : ∀ a0 a1 a2 k, LeO (chancellaw1_TextLonely.f k a0 a1 a2) (chancellaw1_TextLonely.f (k + 1) a0 a1 a2) := by
  intro a0 a1 a2 k
  obtain ⟨ih0, ih1, ih2⟩ := chancellaw1_TextLonely.mono_l k
  unfold chancellaw1_TextLonely.f
  repeat' first
      | (with_reducible exact ih0 _ _ _ _ _)
      | (with_reducible exact ih1 _ _ _ _ _)
      | (with_reducible exact ih2 _ _ _)
      | (with_reducible exact chancellaw1_Of.mono _ _)
      | (with_reducible exact chancellaw1_known.mono _)
      | (with_reducible exact text_Like.mono _ _ _)
      | (with_reducible exact LeO.refl _)
      | (with_reducible exact LeO.none _)
      | (with_reducible refine LeO.ite ?_ ?_)
      | (with_reducible refine LeO.bind ?_ (fun _ => ?_))
      | exact ih0 _ _ _ _ _
      | exact ih1 _ _ _ _ _
      | exact ih2 _ _ _
      | exact chancellaw1_Of.mono _ _
      | exact chancellaw1_known.mono _
      | exact text_Like.mono _ _ _
      | exact LeO.none _
      | refine LeO.ite ?_ ?_
      | refine LeO.bind ?_ (fun _ => ?_)
set_option maxHeartbeats 8000000 in
set_option maxRecDepth 100000 in
theorem chancellaw1_TextLonely.calls (k : Nat) (A0 : Option Addr) (c0 : Nat) (l0 : List Int) (A1 : Option Addr) (c1 : Nat) (l1 : List Int) (a2 : Int) (r : Bool) (w : World) (hr0 : Kd.C (Kd.int .i64) w A0 l0.length l0) (hc0 : l0.length ≤ c0) (hr1 : Kd.C (Kd.int .i64) w A1 l1.length l1) (hc1 : l1.length ≤ c1) (h : chancellaw1_TextLonely.f k l0 l1 a2 = some r) (hT : Tb w) :
    Calls Tryd.prog 5 #[.slice A0 l0.length c0, .slice A1 l1.length c1, .int .i64 a2] w fun e w' => e = .returned (.bool r) ∧ Below w.heap.size w w' := by
  have HR0 := Aside0.mk hr0
  have HC0 := Aside0.mk hc0
  clear hr0 hc0
  have HR1 := Aside0.mk hr1
  have HC1 := Aside0.mk hc1
  clear hr1 hc1
  have HB := Aside0.mk (Below.refl w.heap.size w)
  have H : ((chancellaw1_known.f k).bind fun t210 => (if t210 = true then ((chancellaw1_Of.f k l0).bind fun t211 => ((chancellaw1_Of.f k l1).bind fun t212 => (chancellaw1_TextLonely.l0 k a2 t211 t212 (⟨#[]⟩ : ByteArray) 0))) else (some false))) = some r := h
  clear h
  have HT := Aside0.mk hT
  clear hT
  replace H := Option.bind_eq_some_iff.mp H
  obtain ⟨t210, A40, H⟩ := H
  replace H : (if t210 = true then ((chancellaw1_Of.f k l0).bind fun t211 => ((chancellaw1_Of.f k l1).bind fun t212 => (chancellaw1_TextLonely.l0 k a2 t211 t212 (⟨#[]⟩ : ByteArray) 0))) else (some false)) = some r := H
  have A4 := Aside0.mk A40
  clear A40
  by_cases c5 : t210 = true
  · subst c5
    have H1 : ((chancellaw1_Of.f k l0).bind fun t211 => ((chancellaw1_Of.f k l1).bind fun t212 => (chancellaw1_TextLonely.l0 k a2 t211 t212 (⟨#[]⟩ : ByteArray) 0))) = some r := by rw [if_pos rfl] at H; exact H
    clear H
    have H := H1
    clear H1
    replace H := Option.bind_eq_some_iff.mp H
    obtain ⟨t211, A60, H⟩ := H
    replace H : ((chancellaw1_Of.f k l1).bind fun t212 => (chancellaw1_TextLonely.l0 k a2 t211 t212 (⟨#[]⟩ : ByteArray) 0)) = some r := H
    have A6 := Aside0.mk A60
    clear A60
    replace H := Option.bind_eq_some_iff.mp H
    obtain ⟨t212, A70, H⟩ := H
    replace H : (chancellaw1_TextLonely.l0 k a2 t211 t212 (⟨#[]⟩ : ByteArray) 0) = some r := H
    have A7 := Aside0.mk A70
    clear A70
    have H' := Aside0.mk H
    clear H
    go_enter Tryd.func5, Tryd.ntmps5
    go_wp2_with (first | ((with_reducible refine gate_callee (f := 12) rfl ?_); refine goesL_ (some 13) rfl rfl Tryd.func12 (by kernel_rfl) rfl #[] rfl (by (try simp only [List.map_toArray, List.map_cons, List.map_nil]); first | done | rfl | (simp only [List.length_drop, List.length_take]; rfl)) ?_; (with_reducible refine (chancellaw1_known.calls k  true _ A4.out ?side1).mono ?_); (case side1 => exact Tb.below HT.out (by repeat (first | (with_reducible first | exact HB.out | apply below_alloc | apply pw_below_drewN | apply below_drew1) | exact HB.out))); rintro e w8 ⟨rfl, hb⟩; refine ⟨_, rfl, ?_⟩; have n0_ := Aside0.mk (below_step (by repeat (first | (with_reducible first | exact HB.out | apply below_alloc | apply pw_below_drewN | apply below_drew1) | exact HB.out)) hb); clear HB; have HB := n0_; clear n0_; (try clear hb); (try clear hb2); (try clear hk); (try clear hi)) | ((with_reducible refine gate_callee (f := 13) rfl ?_); refine goesL_ (some 16) rfl rfl Tryd.func13 (by kernel_rfl) rfl #[.slice A0 l0.length c0] rfl (by (try simp only [List.map_toArray, List.map_cons, List.map_nil]); first | done | rfl | (simp only [List.length_drop, List.length_take]; rfl)) ?_; (with_reducible refine (chancellaw1_Of.calls k _ _ l0 t211 _ ?side1 ?side2 A6.out).mono ?_); (case side1 => repeat (first | exact (Kd.C_below HR0.out HB.out) | (with_reducible refine Kd.C_alloc ?_ _) | (with_reducible refine Kd.C_drewN ?_ _) | (with_reducible refine Kd.C_drew ?_))); (case side2 => exact HC0.out); rintro e w9 ⟨rfl, hb⟩; refine ⟨_, rfl, ?_⟩; have n0_ := Aside0.mk (below_step (by repeat (first | (with_reducible first | exact HB.out | apply below_alloc | apply pw_below_drewN | apply below_drew1) | exact HB.out)) hb); clear HB; have HB := n0_; clear n0_; (try clear hb); (try clear hb2); (try clear hk); (try clear hi)) | ((with_reducible refine gate_callee (f := 13) rfl ?_); refine goesL_ (some 18) rfl rfl Tryd.func13 (by kernel_rfl) rfl #[.slice A1 l1.length c1] rfl (by (try simp only [List.map_toArray, List.map_cons, List.map_nil]); first | done | rfl | (simp only [List.length_drop, List.length_take]; rfl)) ?_; (with_reducible refine (chancellaw1_Of.calls k _ _ l1 t212 _ ?side1 ?side2 A7.out).mono ?_); (case side1 => repeat (first | exact (Kd.C_below HR1.out HB.out) | (with_reducible refine Kd.C_alloc ?_ _) | (with_reducible refine Kd.C_drewN ?_ _) | (with_reducible refine Kd.C_drew ?_))); (case side2 => exact HC1.out); rintro e w10 ⟨rfl, hb⟩; refine ⟨_, rfl, ?_⟩; have n0_ := Aside0.mk (below_step (by repeat (first | (with_reducible first | exact HB.out | apply below_alloc | apply pw_below_drewN | apply below_drew1) | exact HB.out)) hb); clear HB; have HB := n0_; clear n0_; (try clear hb); (try clear hb2); (try clear hk); (try clear hi)))
    go_loopg [9, 10] k (fun kq v9 v10 w' => ∃ (x9_1 : ByteArray) (x10_1 : Int), v9 = .string x9_1 ∧ v10 = .int .i64 x10_1 ∧ Aside0 (chancellaw1_TextLonely.l0 kq a2 t211 t212 x9_1 x10_1 = some r) ∧ Aside0 (kq ≤ k) ∧ Aside0 (Below w.heap.size w w'))
    case atStart => exact ⟨((⟨#[]⟩ : ByteArray)), (0), (by first | rfl | (simp; done) | (simp [*]; done)), (by first | rfl | (simp; done) | (simp [*]; done)), H', ⟨Nat.le_refl _⟩, ⟨by repeat (first | (with_reducible first | exact HB.out | apply below_alloc | apply pw_below_drewN | apply below_drew1) | exact HB.out)⟩⟩
    case round =>
      clear H'
      try clear c1
      try clear p2
      try clear c5
      obtain ⟨x9_1, x10_1, rfl, rfl, HA, HK1, HB⟩ := hrel
      cases gk with
      | zero => exact absurd HA.out (by simp [chancellaw1_TextLonely.l0])
      | succ k1 =>
        have H := HA.out
        clear HA
        simp only [chancellaw1_TextLonely.l0] at H
        replace H := Option.bind_eq_some_iff.mp H
        obtain ⟨t213, A110, H⟩ := H
        replace H : (if x10_1 < (wrap64 (1 + t213)) then (if x9_1.size + 1 ≤ 9223372036854775807 then (chancellaw1_TextLonely.l0 k1 a2 t211 t212 (x9_1 ++ (⟨#[42]⟩ : ByteArray)) (wrap64 (x10_1 + 1))) else (none)) else (chancellaw1_TextLonely.l1 k1 t211 t212 x9_1 true 0)) = some r := H
        have A11 := Aside0.mk A110
        clear A110
        by_cases c12 : x10_1 < (wrap64 (1 + t213))
        · rw [if_pos c12] at H
          have c12b0 : decide (x10_1 < (wrap64 (1 + t213))) = true := decide_eq_true c12
          clear c12
          by_cases c13 : x9_1.size + 1 ≤ 9223372036854775807
          · rw [if_pos c13] at H
            have c13b0 := eq_true c13
            have c13b1 : decide (x9_1.size + 1 ≤ 9223372036854775807) = true := decide_eq_true c13
            try have c13b2 : (9223372036854775807 < x9_1.size + 1) = False := eq_false (Nat.not_lt.2 c13)
            have H' := Aside0.mk H
            clear H
            go_wp2_with (first | ((with_reducible refine gate_callee (f := 17) rfl ?_); refine goesL_ (some 21) rfl rfl Tryd.func17 (by kernel_rfl) rfl #[.int .i64 a2, .int .i64 5] rfl (by (try simp only [List.map_toArray, List.map_cons, List.map_nil]); first | done | rfl | (simp only [List.length_drop, List.length_take]; rfl)) ?_; (with_reducible refine (chancellaw1_within.calls a2 5 t213 _ A11.out).mono ?_); rintro e w' ⟨rfl, ⟨nd, rfl⟩⟩; refine ⟨_, rfl, ?_⟩))
            go_roundg k1
            case measure => have := HK1.out; omega
            case rel => exact ⟨(x9_1 ++ (⟨#[42]⟩ : ByteArray)), (wrap64 (x10_1 + 1)), (by first | rfl | (simp; done) | (simp [*]; done)), (by first | rfl | (simp; done) | (simp [*]; done)), H', ⟨by have := HK1.out; omega⟩, ⟨by repeat (first | (with_reducible first | exact HB.out | apply below_alloc | apply pw_below_drewN | apply below_drew1) | exact HB.out)⟩⟩
          · rw [if_neg c13] at H
            exact absurd H (by simp)
        · rw [if_neg c12] at H
          have c12b0 : decide (x10_1 < (wrap64 (1 + t213))) = false := decide_eq_false c12
          clear c12
          have H' := Aside0.mk H
          clear H
          go_wp2_with (first | ((with_reducible refine gate_callee (f := 17) rfl ?_); refine goesL_ (some 21) rfl rfl Tryd.func17 (by kernel_rfl) rfl #[.int .i64 a2, .int .i64 5] rfl (by (try simp only [List.map_toArray, List.map_cons, List.map_nil]); first | done | rfl | (simp only [List.length_drop, List.length_take]; rfl)) ?_; (with_reducible refine (chancellaw1_within.calls a2 5 t213 _ A11.out).mono ?_); rintro e w' ⟨rfl, ⟨nd, rfl⟩⟩; refine ⟨_, rfl, ?_⟩))
          go_loopg [11, 12] k1 (fun kq v11 v12 w' => ∃ (x11_2 : Bool) (x12_2 : Int), v11 = .bool x11_2 ∧ v12 = .int .i64 x12_2 ∧ Aside0 (chancellaw1_TextLonely.l1 kq t211 t212 x9_1 x11_2 x12_2 = some r) ∧ Aside0 (kq ≤ k1) ∧ Aside0 (Below w.heap.size w w'))
          case atStart => exact ⟨(true), (0), (by first | rfl | (simp; done) | (simp [*]; done)), (by first | rfl | (simp; done) | (simp [*]; done)), H', ⟨Nat.le_refl _⟩, ⟨by repeat (first | (with_reducible first | exact HB.out | apply below_alloc | apply pw_below_drewN | apply below_drew1) | exact HB.out)⟩⟩
          case round =>
            clear H'
            try clear c1
            try clear p2
            try clear c5
            try clear p6
            try clear c12
            try clear c12b0
            try clear c13
            try clear c13b0
            try clear c13b1
            try clear c13b2
            try clear p2
            obtain ⟨x11_2, x12_2, rfl, rfl, HA, HK2, HB⟩ := hrel
            cases gk with
            | zero => exact absurd HA.out (by simp [chancellaw1_TextLonely.l1])
            | succ k2 =>
              have H := HA.out
              clear HA
              simp only [chancellaw1_TextLonely.l1] at H
              by_cases c14 : x12_2 < (t212.size : Int)
              · rw [if_pos c14] at H
                have c14b0 : decide (x12_2 < (t212.size : Int)) = true := decide_eq_true c14
                clear c14
                by_cases c15 : x11_2 = true
                · subst c15
                  have H1 : (if 0 ≤ x12_2 then (chancellaw1_TextLonely.l1 k2 t211 t212 x9_1 ((bt t212 x12_2) != 42) (wrap64 (x12_2 + 1))) else (none)) = some r := by rw [if_pos rfl] at H; exact H
                  clear H
                  have H := H1
                  clear H1
                  by_cases c16 : 0 ≤ x12_2
                  · rw [if_pos c16] at H
                    have c16b0 : decide (0 ≤ x12_2) = true := decide_eq_true c16
                    clear c16
                    have H' := Aside0.mk H
                    clear H
                    have p17 : 0 ≤ (x12_2 : Int) := of_decide_eq_true (by first | (with_reducible assumption) | assumption)
                    have q17 : x12_2 < (t212.size : Int) := of_decide_eq_true (by first | (with_reducible assumption) | assumption)
                    have hx17 := bt_at t212 x12_2
                    replace p17 := eq_true p17
                    replace q17 := eq_true q17
                    go_wp2
                    go_roundg k2
                    case measure => have := HK1.out; have := HK2.out; omega
                    case rel => exact ⟨(((bt t212 x12_2) != 42)), (wrap64 (x12_2 + 1)), (by first | rfl | (simp; done) | (simp [*]; done)), (by first | rfl | (simp; done) | (simp [*]; done)), H', ⟨by have := HK1.out; have := HK2.out; omega⟩, ⟨by repeat (first | (with_reducible first | exact HB.out | apply below_alloc | apply pw_below_drewN | apply below_drew1) | exact HB.out)⟩⟩
                  · rw [if_neg c16] at H
                    exact absurd H (by simp)
                · replace c15 := Bool.eq_false_iff.mpr c15
                  subst c15
                  have H1 : (chancellaw1_TextLonely.l1 k2 t211 t212 x9_1 false (wrap64 (x12_2 + 1))) = some r := by rw [if_neg (show ¬ (false = true) by decide)] at H; exact H
                  clear H
                  have H := H1
                  clear H1
                  have H' := Aside0.mk H
                  clear H
                  go_wp2
                  go_roundg k2
                  case measure => have := HK1.out; have := HK2.out; omega
                  case rel => exact ⟨(false), (wrap64 (x12_2 + 1)), (by first | rfl | (simp; done) | (simp [*]; done)), (by first | rfl | (simp; done) | (simp [*]; done)), H', ⟨by have := HK1.out; have := HK2.out; omega⟩, ⟨by repeat (first | (with_reducible first | exact HB.out | apply below_alloc | apply pw_below_drewN | apply below_drew1) | exact HB.out)⟩⟩
              · rw [if_neg c14] at H
                have c14b0 : decide (x12_2 < (t212.size : Int)) = false := decide_eq_false c14
                clear c14
                have HC18 := Aside0.mk H
                clear H
                go_upto_region 14 with (fail)
                go_cut [50] (fun v50 wc => ∃ (kq : Nat) (x50_17 : Bool), v50 = .bool x50_17 ∧ Aside0 (chancellaw1_TextLonely.j2 kq t211 x9_1 x50_17 = some r) ∧ Aside0 (kq ≤ k2) ∧ Aside0 (Below w.heap.size w wc))
                case first =>
                  have H := HC18.out
                  clear HC18
                  by_cases c19 : x11_2 = true
                  · subst c19
                    have H1 : ((text_Like.f k2 t211 t212).bind fun t214 => (chancellaw1_TextLonely.j2 k2 t211 x9_1 (t214 != (t211.toList == t212.toList)))) = some r := by rw [if_pos rfl] at H; exact H
                    clear H
                    have H := H1
                    clear H1
                    replace H := Option.bind_eq_some_iff.mp H
                    obtain ⟨t214, A200, H⟩ := H
                    replace H : (chancellaw1_TextLonely.j2 k2 t211 x9_1 (t214 != (t211.toList == t212.toList))) = some r := H
                    have A20 := Aside0.mk A200
                    clear A200
                    have H' := Aside0.mk H
                    clear H
                    go_wp2_with (first | (go_at_call 14; (with_reducible refine (text_Like.calls k2 t211 t212 t214 _ A20.out).mono ?_); rintro e w21 ⟨rfl, hb⟩; have n0_ := Aside0.mk (below_step (by repeat (first | (with_reducible first | exact HB.out | apply below_alloc | apply pw_below_drewN | apply below_drew1) | exact HB.out)) hb); clear HB; have HB := n0_; clear n0_; (try clear hb); (try clear hb2); (try clear hk); (try clear hi)))
                    go_meet
                    case rel => exact ⟨_, ((t214 != (t211.toList == t212.toList))), (by first | rfl | (simp; done) | (simp [*]; done)), H', ⟨by have := HK1.out; have := HK2.out; first | omega | exact Nat.le_refl _⟩, ⟨by repeat (first | (with_reducible first | exact HB.out | apply below_alloc | apply pw_below_drewN | apply below_drew1) | exact HB.out)⟩⟩
                  · replace c19 := Bool.eq_false_iff.mpr c19
                    subst c19
                    have H1 : (chancellaw1_TextLonely.j2 k2 t211 x9_1 false) = some r := by rw [if_neg (show ¬ (false = true) by decide)] at H; exact H
                    clear H
                    have H := H1
                    clear H1
                    have H' := Aside0.mk H
                    clear H
                    go_wp2
                    go_meet
                    case rel => exact ⟨_, (false), (by first | rfl | (simp; done) | (simp [*]; done)), H', ⟨by have := HK1.out; have := HK2.out; first | omega | exact Nat.le_refl _⟩, ⟨by repeat (first | (with_reducible first | exact HB.out | apply below_alloc | apply pw_below_drewN | apply below_drew1) | exact HB.out)⟩⟩
                case rest =>
                  clear HC18
                  try clear c1
                  try clear p1
                  try clear q1
                  try clear hx1
                  try clear p2
                  try clear c5
                  try clear p6
                  try clear c12
                  try clear c12b0
                  try clear c13
                  try clear c13b0
                  try clear c13b1
                  try clear c13b2
                  try clear c14
                  try clear c14b0
                  try clear c15
                  try clear c16
                  try clear c16b0
                  try clear c17
                  try clear p17
                  try clear q17
                  try clear hx17
                  try clear c19
                  try clear p17
                  try clear p2
                  try clear p6
                  try clear q17
                  obtain ⟨kq, x50_17, rfl, HA, HJ17, HB⟩ := hcut
                  cases kq with
                  | zero => exact absurd HA.out (by simp [chancellaw1_TextLonely.j2])
                  | succ kj17 =>
                    have H := HA.out
                    clear HA
                    simp only [chancellaw1_TextLonely.j2] at H
                    by_cases c22 : x50_17 = true
                    · subst c22
                      have H1 : (some false) = some r := by rw [if_pos rfl] at H; exact H
                      clear H
                      have H := H1
                      clear H1
                      obtain rfl := Option.some.inj H
                      go_wp2
                      go_ret
                      exact ⟨by first | rfl | (simp [errW_none, errW_some] <;> rfl) | (simp [*, errW_none, errW_some] <;> rfl), by repeat (first | (with_reducible first | exact HB.out | apply below_alloc | apply pw_below_drewN | apply below_drew1) | exact HB.out)⟩
                    · replace c22 := Bool.eq_false_iff.mpr c22
                      subst c22
                      have H1 : ((text_Like.f kj17 t211 x9_1).bind fun t215 => (if t215 = true then ((text_Like.f kj17 (⟨#[]⟩ : ByteArray) x9_1).bind fun t216 => (if t216 = true then ((text_Like.f kj17 (⟨#[]⟩ : ByteArray) (⟨#[]⟩ : ByteArray)).bind fun t217 => (if t217 = true then ((text_Like.f kj17 t211 (⟨#[]⟩ : ByteArray)).bind fun t218 => (if (t218 == (t211.toList == ([] : List UInt8))) = true then (if x9_1.size + 1 ≤ 9223372036854775807 then ((text_Like.f kj17 (⟨#[]⟩ : ByteArray) (x9_1 ++ (⟨#[97]⟩ : ByteArray))).bind fun t219 => (if t219 = true then (some false) else (if t211.size + 1 ≤ 9223372036854775807 then ((text_Like.f kj17 (t211 ++ (⟨#[97]⟩ : ByteArray)) (x9_1 ++ (⟨#[97]⟩ : ByteArray))).bind fun t220 => (some t220)) else (none)))) else (none)) else (some false))) else (some false))) else (some false))) else (some false))) = some r := by rw [if_neg (show ¬ (false = true) by decide)] at H; exact H
                      clear H
                      have H := H1
                      clear H1
                      replace H := Option.bind_eq_some_iff.mp H
                      obtain ⟨t215, A230, H⟩ := H
                      replace H : (if t215 = true then ((text_Like.f kj17 (⟨#[]⟩ : ByteArray) x9_1).bind fun t216 => (if t216 = true then ((text_Like.f kj17 (⟨#[]⟩ : ByteArray) (⟨#[]⟩ : ByteArray)).bind fun t217 => (if t217 = true then ((text_Like.f kj17 t211 (⟨#[]⟩ : ByteArray)).bind fun t218 => (if (t218 == (t211.toList == ([] : List UInt8))) = true then (if x9_1.size + 1 ≤ 9223372036854775807 then ((text_Like.f kj17 (⟨#[]⟩ : ByteArray) (x9_1 ++ (⟨#[97]⟩ : ByteArray))).bind fun t219 => (if t219 = true then (some false) else (if t211.size + 1 ≤ 9223372036854775807 then ((text_Like.f kj17 (t211 ++ (⟨#[97]⟩ : ByteArray)) (x9_1 ++ (⟨#[97]⟩ : ByteArray))).bind fun t220 => (some t220)) else (none)))) else (none)) else (some false))) else (some false))) else (some false))) else (some false)) = some r := H
                      have A23 := Aside0.mk A230
                      clear A230
                      by_cases c24 : t215 = true
                      · subst c24
                        have H1 : ((text_Like.f kj17 (⟨#[]⟩ : ByteArray) x9_1).bind fun t216 => (if t216 = true then ((text_Like.f kj17 (⟨#[]⟩ : ByteArray) (⟨#[]⟩ : ByteArray)).bind fun t217 => (if t217 = true then ((text_Like.f kj17 t211 (⟨#[]⟩ : ByteArray)).bind fun t218 => (if (t218 == (t211.toList == ([] : List UInt8))) = true then (if x9_1.size + 1 ≤ 9223372036854775807 then ((text_Like.f kj17 (⟨#[]⟩ : ByteArray) (x9_1 ++ (⟨#[97]⟩ : ByteArray))).bind fun t219 => (if t219 = true then (some false) else (if t211.size + 1 ≤ 9223372036854775807 then ((text_Like.f kj17 (t211 ++ (⟨#[97]⟩ : ByteArray)) (x9_1 ++ (⟨#[97]⟩ : ByteArray))).bind fun t220 => (some t220)) else (none)))) else (none)) else (some false))) else (some false))) else (some false))) = some r := by rw [if_pos rfl] at H; exact H
                        clear H
                        have H := H1
                        clear H1
                        replace H := Option.bind_eq_some_iff.mp H
                        obtain ⟨t216, A250, H⟩ := H
                        replace H : (if t216 = true then ((text_Like.f kj17 (⟨#[]⟩ : ByteArray) (⟨#[]⟩ : ByteArray)).bind fun t217 => (if t217 = true then ((text_Like.f kj17 t211 (⟨#[]⟩ : ByteArray)).bind fun t218 => (if (t218 == (t211.toList == ([] : List UInt8))) = true then (if x9_1.size + 1 ≤ 9223372036854775807 then ((text_Like.f kj17 (⟨#[]⟩ : ByteArray) (x9_1 ++ (⟨#[97]⟩ : ByteArray))).bind fun t219 => (if t219 = true then (some false) else (if t211.size + 1 ≤ 9223372036854775807 then ((text_Like.f kj17 (t211 ++ (⟨#[97]⟩ : ByteArray)) (x9_1 ++ (⟨#[97]⟩ : ByteArray))).bind fun t220 => (some t220)) else (none)))) else (none)) else (some false))) else (some false))) else (some false)) = some r := H
                        have A25 := Aside0.mk A250
                        clear A250
                        by_cases c26 : t216 = true
                        · subst c26
                          have H1 : ((text_Like.f kj17 (⟨#[]⟩ : ByteArray) (⟨#[]⟩ : ByteArray)).bind fun t217 => (if t217 = true then ((text_Like.f kj17 t211 (⟨#[]⟩ : ByteArray)).bind fun t218 => (if (t218 == (t211.toList == ([] : List UInt8))) = true then (if x9_1.size + 1 ≤ 9223372036854775807 then ((text_Like.f kj17 (⟨#[]⟩ : ByteArray) (x9_1 ++ (⟨#[97]⟩ : ByteArray))).bind fun t219 => (if t219 = true then (some false) else (if t211.size + 1 ≤ 9223372036854775807 then ((text_Like.f kj17 (t211 ++ (⟨#[97]⟩ : ByteArray)) (x9_1 ++ (⟨#[97]⟩ : ByteArray))).bind fun t220 => (some t220)) else (none)))) else (none)) else (some false))) else (some false))) = some r := by rw [if_pos rfl] at H; exact H
                          clear H
                          have H := H1
                          clear H1
                          replace H := Option.bind_eq_some_iff.mp H
                          obtain ⟨t217, A270, H⟩ := H
                          replace H : (if t217 = true then ((text_Like.f kj17 t211 (⟨#[]⟩ : ByteArray)).bind fun t218 => (if (t218 == (t211.toList == ([] : List UInt8))) = true then (if x9_1.size + 1 ≤ 9223372036854775807 then ((text_Like.f kj17 (⟨#[]⟩ : ByteArray) (x9_1 ++ (⟨#[97]⟩ : ByteArray))).bind fun t219 => (if t219 = true then (some false) else (if t211.size + 1 ≤ 9223372036854775807 then ((text_Like.f kj17 (t211 ++ (⟨#[97]⟩ : ByteArray)) (x9_1 ++ (⟨#[97]⟩ : ByteArray))).bind fun t220 => (some t220)) else (none)))) else (none)) else (some false))) else (some false)) = some r := H
                          have A27 := Aside0.mk A270
                          clear A270
                          by_cases c28 : t217 = true
                          · subst c28
                            have H1 : ((text_Like.f kj17 t211 (⟨#[]⟩ : ByteArray)).bind fun t218 => (if (t218 == (t211.toList == ([] : List UInt8))) = true then (if x9_1.size + 1 ≤ 9223372036854775807 then ((text_Like.f kj17 (⟨#[]⟩ : ByteArray) (x9_1 ++ (⟨#[97]⟩ : ByteArray))).bind fun t219 => (if t219 = true then (some false) else (if t211.size + 1 ≤ 9223372036854775807 then ((text_Like.f kj17 (t211 ++ (⟨#[97]⟩ : ByteArray)) (x9_1 ++ (⟨#[97]⟩ : ByteArray))).bind fun t220 => (some t220)) else (none)))) else (none)) else (some false))) = some r := by rw [if_pos rfl] at H; exact H
                            clear H
                            have H := H1
                            clear H1
                            replace H := Option.bind_eq_some_iff.mp H
                            obtain ⟨t218, A290, H⟩ := H
                            replace H : (if (t218 == (t211.toList == ([] : List UInt8))) = true then (if x9_1.size + 1 ≤ 9223372036854775807 then ((text_Like.f kj17 (⟨#[]⟩ : ByteArray) (x9_1 ++ (⟨#[97]⟩ : ByteArray))).bind fun t219 => (if t219 = true then (some false) else (if t211.size + 1 ≤ 9223372036854775807 then ((text_Like.f kj17 (t211 ++ (⟨#[97]⟩ : ByteArray)) (x9_1 ++ (⟨#[97]⟩ : ByteArray))).bind fun t220 => (some t220)) else (none)))) else (none)) else (some false)) = some r := H
                            have A29 := Aside0.mk A290
                            clear A290
                            by_cases c30 : (t218 == (t211.toList == ([] : List UInt8))) = true
                            · rw [if_pos c30] at H
                              have c30b0 : (t218 == (t211.toList == ([] : List UInt8))) = true := c30
                              have c30b8 : (t218 = t211.toList.isEmpty) = True := by
                                have e_ : (t211.toList == ([] : List UInt8)) = t211.toList.isEmpty := by cases t211.toList <;> rfl
                                rw [e_] at c30
                                exact eq_true (by simpa using c30)
                              (try (have c30b1 : decide (t218 = (t211.toList == ([] : List UInt8))) = true := by simpa using c30))
                              (try (have c30b2 : (t218 == (t211.toList == ([] : List UInt8))) = true := by simpa using c30))
                              clear c30
                              by_cases c31 : x9_1.size + 1 ≤ 9223372036854775807
                              · rw [if_pos c31] at H
                                have c31b0 := eq_true c31
                                have c31b1 : decide (x9_1.size + 1 ≤ 9223372036854775807) = true := decide_eq_true c31
                                try have c31b2 : (9223372036854775807 < x9_1.size + 1) = False := eq_false (Nat.not_lt.2 c31)
                                replace H := Option.bind_eq_some_iff.mp H
                                obtain ⟨t219, A320, H⟩ := H
                                replace H : (if t219 = true then (some false) else (if t211.size + 1 ≤ 9223372036854775807 then ((text_Like.f kj17 (t211 ++ (⟨#[97]⟩ : ByteArray)) (x9_1 ++ (⟨#[97]⟩ : ByteArray))).bind fun t220 => (some t220)) else (none))) = some r := H
                                have A32 := Aside0.mk A320
                                clear A320
                                by_cases c33 : t219 = true
                                · subst c33
                                  have H1 : (some false) = some r := by rw [if_pos rfl] at H; exact H
                                  clear H
                                  have H := H1
                                  clear H1
                                  obtain rfl := Option.some.inj H
                                  go_wp2_with (first | ((with_reducible refine gate_callee (f := 14) rfl ?_); refine goesL_ (some 53) rfl rfl Tryd.func14 (by kernel_rfl) rfl #[.string t211, .string x9_1] rfl (by (try simp only [List.map_toArray, List.map_cons, List.map_nil]); first | done | rfl | (simp only [List.length_drop, List.length_take]; rfl)) ?_; (with_reducible refine (text_Like.calls kj17 t211 x9_1 true _ A23.out).mono ?_); rintro e w34 ⟨rfl, hb⟩; refine ⟨_, rfl, ?_⟩; have n0_ := Aside0.mk (below_step (by repeat (first | (with_reducible first | exact HB.out | apply below_alloc | apply pw_below_drewN | apply below_drew1) | exact HB.out)) hb); clear HB; have HB := n0_; clear n0_; (try clear hb); (try clear hb2); (try clear hk); (try clear hi)) | (go_at_call 14; (with_reducible refine (text_Like.calls kj17 (⟨#[]⟩ : ByteArray) x9_1 true _ A25.out).mono ?_); rintro e w35 ⟨rfl, hb⟩; have n0_ := Aside0.mk (below_step (by repeat (first | (with_reducible first | exact HB.out | apply below_alloc | apply pw_below_drewN | apply below_drew1) | exact HB.out)) hb); clear HB; have HB := n0_; clear n0_; (try clear hb); (try clear hb2); (try clear hk); (try clear hi)) | (go_at_call 14; (with_reducible refine (text_Like.calls kj17 (⟨#[]⟩ : ByteArray) (⟨#[]⟩ : ByteArray) true _ A27.out).mono ?_); rintro e w36 ⟨rfl, hb⟩; have n0_ := Aside0.mk (below_step (by repeat (first | (with_reducible first | exact HB.out | apply below_alloc | apply pw_below_drewN | apply below_drew1) | exact HB.out)) hb); clear HB; have HB := n0_; clear n0_; (try clear hb); (try clear hb2); (try clear hk); (try clear hi)) | (go_at_call 14; (with_reducible refine (text_Like.calls kj17 t211 (⟨#[]⟩ : ByteArray) t218 _ A29.out).mono ?_); rintro e w37 ⟨rfl, hb⟩; have n0_ := Aside0.mk (below_step (by repeat (first | (with_reducible first | exact HB.out | apply below_alloc | apply pw_below_drewN | apply below_drew1) | exact HB.out)) hb); clear HB; have HB := n0_; clear n0_; (try clear hb); (try clear hb2); (try clear hk); (try clear hi)) | (go_at_call 14; (with_reducible refine (text_Like.calls kj17 (⟨#[]⟩ : ByteArray) (x9_1 ++ (⟨#[97]⟩ : ByteArray)) true _ A32.out).mono ?_); rintro e w38 ⟨rfl, hb⟩; have n0_ := Aside0.mk (below_step (by repeat (first | (with_reducible first | exact HB.out | apply below_alloc | apply pw_below_drewN | apply below_drew1) | exact HB.out)) hb); clear HB; have HB := n0_; clear n0_; (try clear hb); (try clear hb2); (try clear hk); (try clear hi)))
                                  go_ret
                                  exact ⟨by first | rfl | (simp [errW_none, errW_some] <;> rfl) | (simp [*, errW_none, errW_some] <;> rfl), by repeat (first | (with_reducible first | exact HB.out | apply below_alloc | apply pw_below_drewN | apply below_drew1) | exact HB.out)⟩
                                · replace c33 := Bool.eq_false_iff.mpr c33
                                  subst c33
                                  have H1 : (if t211.size + 1 ≤ 9223372036854775807 then ((text_Like.f kj17 (t211 ++ (⟨#[97]⟩ : ByteArray)) (x9_1 ++ (⟨#[97]⟩ : ByteArray))).bind fun t220 => (some t220)) else (none)) = some r := by rw [if_neg (show ¬ (false = true) by decide)] at H; exact H
                                  clear H
                                  have H := H1
                                  clear H1
                                  by_cases c39 : t211.size + 1 ≤ 9223372036854775807
                                  · rw [if_pos c39] at H
                                    have c39b0 := eq_true c39
                                    have c39b1 : decide (t211.size + 1 ≤ 9223372036854775807) = true := decide_eq_true c39
                                    try have c39b2 : (9223372036854775807 < t211.size + 1) = False := eq_false (Nat.not_lt.2 c39)
                                    replace H := Option.bind_eq_some_iff.mp H
                                    obtain ⟨t220, A400, H⟩ := H
                                    replace H : (some t220) = some r := H
                                    have A40 := Aside0.mk A400
                                    clear A400
                                    obtain rfl := Option.some.inj H
                                    go_wp2_with (first | ((with_reducible refine gate_callee (f := 14) rfl ?_); refine goesL_ (some 53) rfl rfl Tryd.func14 (by kernel_rfl) rfl #[.string t211, .string x9_1] rfl (by (try simp only [List.map_toArray, List.map_cons, List.map_nil]); first | done | rfl | (simp only [List.length_drop, List.length_take]; rfl)) ?_; (with_reducible refine (text_Like.calls kj17 t211 x9_1 true _ A23.out).mono ?_); rintro e w41 ⟨rfl, hb⟩; refine ⟨_, rfl, ?_⟩; have n0_ := Aside0.mk (below_step (by repeat (first | (with_reducible first | exact HB.out | apply below_alloc | apply pw_below_drewN | apply below_drew1) | exact HB.out)) hb); clear HB; have HB := n0_; clear n0_; (try clear hb); (try clear hb2); (try clear hk); (try clear hi)) | (go_at_call 14; (with_reducible refine (text_Like.calls kj17 (⟨#[]⟩ : ByteArray) x9_1 true _ A25.out).mono ?_); rintro e w42 ⟨rfl, hb⟩; have n0_ := Aside0.mk (below_step (by repeat (first | (with_reducible first | exact HB.out | apply below_alloc | apply pw_below_drewN | apply below_drew1) | exact HB.out)) hb); clear HB; have HB := n0_; clear n0_; (try clear hb); (try clear hb2); (try clear hk); (try clear hi)) | (go_at_call 14; (with_reducible refine (text_Like.calls kj17 (⟨#[]⟩ : ByteArray) (⟨#[]⟩ : ByteArray) true _ A27.out).mono ?_); rintro e w43 ⟨rfl, hb⟩; have n0_ := Aside0.mk (below_step (by repeat (first | (with_reducible first | exact HB.out | apply below_alloc | apply pw_below_drewN | apply below_drew1) | exact HB.out)) hb); clear HB; have HB := n0_; clear n0_; (try clear hb); (try clear hb2); (try clear hk); (try clear hi)) | (go_at_call 14; (with_reducible refine (text_Like.calls kj17 t211 (⟨#[]⟩ : ByteArray) t218 _ A29.out).mono ?_); rintro e w44 ⟨rfl, hb⟩; have n0_ := Aside0.mk (below_step (by repeat (first | (with_reducible first | exact HB.out | apply below_alloc | apply pw_below_drewN | apply below_drew1) | exact HB.out)) hb); clear HB; have HB := n0_; clear n0_; (try clear hb); (try clear hb2); (try clear hk); (try clear hi)) | (go_at_call 14; (with_reducible refine (text_Like.calls kj17 (⟨#[]⟩ : ByteArray) (x9_1 ++ (⟨#[97]⟩ : ByteArray)) false _ A32.out).mono ?_); rintro e w45 ⟨rfl, hb⟩; have n0_ := Aside0.mk (below_step (by repeat (first | (with_reducible first | exact HB.out | apply below_alloc | apply pw_below_drewN | apply below_drew1) | exact HB.out)) hb); clear HB; have HB := n0_; clear n0_; (try clear hb); (try clear hb2); (try clear hk); (try clear hi)) | (go_at_call 14; (with_reducible refine (text_Like.calls kj17 (t211 ++ (⟨#[97]⟩ : ByteArray)) (x9_1 ++ (⟨#[97]⟩ : ByteArray)) t220 _ A40.out).mono ?_); rintro e w46 ⟨rfl, hb⟩; have n0_ := Aside0.mk (below_step (by repeat (first | (with_reducible first | exact HB.out | apply below_alloc | apply pw_below_drewN | apply below_drew1) | exact HB.out)) hb); clear HB; have HB := n0_; clear n0_; (try clear hb); (try clear hb2); (try clear hk); (try clear hi)))
                                    go_ret
                                    exact ⟨by first | rfl | (simp [errW_none, errW_some] <;> rfl) | (simp [*, errW_none, errW_some] <;> rfl), by repeat (first | (with_reducible first | exact HB.out | apply below_alloc | apply pw_below_drewN | apply below_drew1) | exact HB.out)⟩
                                  · rw [if_neg c39] at H
                                    exact absurd H (by simp)
                              · rw [if_neg c31] at H
                                exact absurd H (by simp)
                            · rw [if_neg c30] at H
                              have c30b0 : (t218 == (t211.toList == ([] : List UInt8))) = false := by simpa using c30
                              have c30b8 : (t218 = t211.toList.isEmpty) = False := by
                                have e_ : (t211.toList == ([] : List UInt8)) = t211.toList.isEmpty := by cases t211.toList <;> rfl
                                rw [e_] at c30
                                exact eq_false (by simpa using c30)
                              (try (have c30b1 : decide (t218 = (t211.toList == ([] : List UInt8))) = false := by simpa using c30))
                              (try (have c30b2 : (t218 == (t211.toList == ([] : List UInt8))) = false := by simpa using c30))
                              (try (have c30b3 : ¬ (t218 = (t211.toList == ([] : List UInt8))) := by simpa using c30))
                              clear c30
                              obtain rfl := Option.some.inj H
                              go_wp2_with (first | ((with_reducible refine gate_callee (f := 14) rfl ?_); refine goesL_ (some 53) rfl rfl Tryd.func14 (by kernel_rfl) rfl #[.string t211, .string x9_1] rfl (by (try simp only [List.map_toArray, List.map_cons, List.map_nil]); first | done | rfl | (simp only [List.length_drop, List.length_take]; rfl)) ?_; (with_reducible refine (text_Like.calls kj17 t211 x9_1 true _ A23.out).mono ?_); rintro e w47 ⟨rfl, hb⟩; refine ⟨_, rfl, ?_⟩; have n0_ := Aside0.mk (below_step (by repeat (first | (with_reducible first | exact HB.out | apply below_alloc | apply pw_below_drewN | apply below_drew1) | exact HB.out)) hb); clear HB; have HB := n0_; clear n0_; (try clear hb); (try clear hb2); (try clear hk); (try clear hi)) | (go_at_call 14; (with_reducible refine (text_Like.calls kj17 (⟨#[]⟩ : ByteArray) x9_1 true _ A25.out).mono ?_); rintro e w48 ⟨rfl, hb⟩; have n0_ := Aside0.mk (below_step (by repeat (first | (with_reducible first | exact HB.out | apply below_alloc | apply pw_below_drewN | apply below_drew1) | exact HB.out)) hb); clear HB; have HB := n0_; clear n0_; (try clear hb); (try clear hb2); (try clear hk); (try clear hi)) | (go_at_call 14; (with_reducible refine (text_Like.calls kj17 (⟨#[]⟩ : ByteArray) (⟨#[]⟩ : ByteArray) true _ A27.out).mono ?_); rintro e w49 ⟨rfl, hb⟩; have n0_ := Aside0.mk (below_step (by repeat (first | (with_reducible first | exact HB.out | apply below_alloc | apply pw_below_drewN | apply below_drew1) | exact HB.out)) hb); clear HB; have HB := n0_; clear n0_; (try clear hb); (try clear hb2); (try clear hk); (try clear hi)) | (go_at_call 14; (with_reducible refine (text_Like.calls kj17 t211 (⟨#[]⟩ : ByteArray) t218 _ A29.out).mono ?_); rintro e w50 ⟨rfl, hb⟩; have n0_ := Aside0.mk (below_step (by repeat (first | (with_reducible first | exact HB.out | apply below_alloc | apply pw_below_drewN | apply below_drew1) | exact HB.out)) hb); clear HB; have HB := n0_; clear n0_; (try clear hb); (try clear hb2); (try clear hk); (try clear hi)))
                              go_ret
                              exact ⟨by first | rfl | (simp [errW_none, errW_some] <;> rfl) | (simp [*, errW_none, errW_some] <;> rfl), by repeat (first | (with_reducible first | exact HB.out | apply below_alloc | apply pw_below_drewN | apply below_drew1) | exact HB.out)⟩
                          · replace c28 := Bool.eq_false_iff.mpr c28
                            subst c28
                            have H1 : (some false) = some r := by rw [if_neg (show ¬ (false = true) by decide)] at H; exact H
                            clear H
                            have H := H1
                            clear H1
                            obtain rfl := Option.some.inj H
                            go_wp2_with (first | ((with_reducible refine gate_callee (f := 14) rfl ?_); refine goesL_ (some 53) rfl rfl Tryd.func14 (by kernel_rfl) rfl #[.string t211, .string x9_1] rfl (by (try simp only [List.map_toArray, List.map_cons, List.map_nil]); first | done | rfl | (simp only [List.length_drop, List.length_take]; rfl)) ?_; (with_reducible refine (text_Like.calls kj17 t211 x9_1 true _ A23.out).mono ?_); rintro e w51 ⟨rfl, hb⟩; refine ⟨_, rfl, ?_⟩; have n0_ := Aside0.mk (below_step (by repeat (first | (with_reducible first | exact HB.out | apply below_alloc | apply pw_below_drewN | apply below_drew1) | exact HB.out)) hb); clear HB; have HB := n0_; clear n0_; (try clear hb); (try clear hb2); (try clear hk); (try clear hi)) | (go_at_call 14; (with_reducible refine (text_Like.calls kj17 (⟨#[]⟩ : ByteArray) x9_1 true _ A25.out).mono ?_); rintro e w52 ⟨rfl, hb⟩; have n0_ := Aside0.mk (below_step (by repeat (first | (with_reducible first | exact HB.out | apply below_alloc | apply pw_below_drewN | apply below_drew1) | exact HB.out)) hb); clear HB; have HB := n0_; clear n0_; (try clear hb); (try clear hb2); (try clear hk); (try clear hi)) | (go_at_call 14; (with_reducible refine (text_Like.calls kj17 (⟨#[]⟩ : ByteArray) (⟨#[]⟩ : ByteArray) false _ A27.out).mono ?_); rintro e w53 ⟨rfl, hb⟩; have n0_ := Aside0.mk (below_step (by repeat (first | (with_reducible first | exact HB.out | apply below_alloc | apply pw_below_drewN | apply below_drew1) | exact HB.out)) hb); clear HB; have HB := n0_; clear n0_; (try clear hb); (try clear hb2); (try clear hk); (try clear hi)))
                            go_ret
                            exact ⟨by first | rfl | (simp [errW_none, errW_some] <;> rfl) | (simp [*, errW_none, errW_some] <;> rfl), by repeat (first | (with_reducible first | exact HB.out | apply below_alloc | apply pw_below_drewN | apply below_drew1) | exact HB.out)⟩
                        · replace c26 := Bool.eq_false_iff.mpr c26
                          subst c26
                          have H1 : (some false) = some r := by rw [if_neg (show ¬ (false = true) by decide)] at H; exact H
                          clear H
                          have H := H1
                          clear H1
                          obtain rfl := Option.some.inj H
                          go_wp2_with (first | ((with_reducible refine gate_callee (f := 14) rfl ?_); refine goesL_ (some 53) rfl rfl Tryd.func14 (by kernel_rfl) rfl #[.string t211, .string x9_1] rfl (by (try simp only [List.map_toArray, List.map_cons, List.map_nil]); first | done | rfl | (simp only [List.length_drop, List.length_take]; rfl)) ?_; (with_reducible refine (text_Like.calls kj17 t211 x9_1 true _ A23.out).mono ?_); rintro e w54 ⟨rfl, hb⟩; refine ⟨_, rfl, ?_⟩; have n0_ := Aside0.mk (below_step (by repeat (first | (with_reducible first | exact HB.out | apply below_alloc | apply pw_below_drewN | apply below_drew1) | exact HB.out)) hb); clear HB; have HB := n0_; clear n0_; (try clear hb); (try clear hb2); (try clear hk); (try clear hi)) | (go_at_call 14; (with_reducible refine (text_Like.calls kj17 (⟨#[]⟩ : ByteArray) x9_1 false _ A25.out).mono ?_); rintro e w55 ⟨rfl, hb⟩; have n0_ := Aside0.mk (below_step (by repeat (first | (with_reducible first | exact HB.out | apply below_alloc | apply pw_below_drewN | apply below_drew1) | exact HB.out)) hb); clear HB; have HB := n0_; clear n0_; (try clear hb); (try clear hb2); (try clear hk); (try clear hi)))
                          go_ret
                          exact ⟨by first | rfl | (simp [errW_none, errW_some] <;> rfl) | (simp [*, errW_none, errW_some] <;> rfl), by repeat (first | (with_reducible first | exact HB.out | apply below_alloc | apply pw_below_drewN | apply below_drew1) | exact HB.out)⟩
                      · replace c24 := Bool.eq_false_iff.mpr c24
                        subst c24
                        have H1 : (some false) = some r := by rw [if_neg (show ¬ (false = true) by decide)] at H; exact H
                        clear H
                        have H := H1
                        clear H1
                        obtain rfl := Option.some.inj H
                        go_wp2_with (first | ((with_reducible refine gate_callee (f := 14) rfl ?_); refine goesL_ (some 53) rfl rfl Tryd.func14 (by kernel_rfl) rfl #[.string t211, .string x9_1] rfl (by (try simp only [List.map_toArray, List.map_cons, List.map_nil]); first | done | rfl | (simp only [List.length_drop, List.length_take]; rfl)) ?_; (with_reducible refine (text_Like.calls kj17 t211 x9_1 false _ A23.out).mono ?_); rintro e w56 ⟨rfl, hb⟩; refine ⟨_, rfl, ?_⟩; have n0_ := Aside0.mk (below_step (by repeat (first | (with_reducible first | exact HB.out | apply below_alloc | apply pw_below_drewN | apply below_drew1) | exact HB.out)) hb); clear HB; have HB := n0_; clear n0_; (try clear hb); (try clear hb2); (try clear hk); (try clear hi)))
                        go_ret
                        exact ⟨by first | rfl | (simp [errW_none, errW_some] <;> rfl) | (simp [*, errW_none, errW_some] <;> rfl), by repeat (first | (with_reducible first | exact HB.out | apply below_alloc | apply pw_below_drewN | apply below_drew1) | exact HB.out)⟩
  · replace c5 := Bool.eq_false_iff.mpr c5
    subst c5
    have H1 : (some false) = some r := by rw [if_neg (show ¬ (false = true) by decide)] at H; exact H
    clear H
    have H := H1
    clear H1
    obtain rfl := Option.some.inj H
    go_enter Tryd.func5, Tryd.ntmps5
    go_wp2_with (first | ((with_reducible refine gate_callee (f := 12) rfl ?_); refine goesL_ (some 13) rfl rfl Tryd.func12 (by kernel_rfl) rfl #[] rfl (by (try simp only [List.map_toArray, List.map_cons, List.map_nil]); first | done | rfl | (simp only [List.length_drop, List.length_take]; rfl)) ?_; (with_reducible refine (chancellaw1_known.calls k  false _ A4.out ?side1).mono ?_); (case side1 => exact Tb.below HT.out (by repeat (first | (with_reducible first | exact HB.out | apply below_alloc | apply pw_below_drewN | apply below_drew1) | exact HB.out))); rintro e w57 ⟨rfl, hb⟩; refine ⟨_, rfl, ?_⟩; have n0_ := Aside0.mk (below_step (by repeat (first | (with_reducible first | exact HB.out | apply below_alloc | apply pw_below_drewN | apply below_drew1) | exact HB.out)) hb); clear HB; have HB := n0_; clear n0_; (try clear hb); (try clear hb2); (try clear hk); (try clear hi)))
    go_ret
    exact ⟨by first | rfl | (simp [errW_none, errW_some] <;> rfl) | (simp [*, errW_none, errW_some] <;> rfl), by repeat (first | (with_reducible first | exact HB.out | apply below_alloc | apply pw_below_drewN | apply below_drew1) | exact HB.out)⟩

/-- THE ONE PURE STATEMENT of chancellaw1_TextLonely: yours. -/
def chancellaw1_TextLonely.Pure : Prop := ∀ (l0 : List Int) (l1 : List Int) (a2 : Int), l0.length ≤ maxLen → l0.length * 8 ≤ 140737488351232 → (∀ x ∈ l0, (Lit.int .i64 x).wf = true) → l1.length ≤ maxLen → l1.length * 8 ≤ 140737488351232 → (∀ x ∈ l1, (Lit.int .i64 x).wf = true) → (Lit.int .i64 a2).wf = true → ∃ k, chancellaw1_TextLonely.f k l0 l1 a2 = some true
theorem chancellaw1_TextLonely.walk (P : chancellaw1_TextLonely.Pure) (a0 : Option Addr) (len0 cap0 : Nat) (z0 : List Int) (a1 : Option Addr) (len1 cap1 : Nat) (z1 : List Int) (a2 : Int) (w : World) (w0 : (a0 = none ∧ len0 = 0 ∧ cap0 = 0 ∧ z0 = []) ∨ ∃ x, a0 = some x ∧ len0 ≤ cap0 ∧ cap0 ≤ maxLen ∧ z0.length = cap0 ∧ (∀ i, i < z0.length → w.cell? (x.add i) = some (.int .i64 (z0.getD i 0))) ∧ ∀ n ∈ z0, (Lit.int .i64 n).wf = true) (y0 : len0 * 8 ≤ 140737488351232) (w1 : (a1 = none ∧ len1 = 0 ∧ cap1 = 0 ∧ z1 = []) ∨ ∃ x, a1 = some x ∧ len1 ≤ cap1 ∧ cap1 ≤ maxLen ∧ z1.length = cap1 ∧ (∀ i, i < z1.length → w.cell? (x.add i) = some (.int .i64 (z1.getD i 0))) ∧ ∀ n ∈ z1, (Lit.int .i64 n).wf = true) (y1 : len1 * 8 ≤ 140737488351232) (w2 : (Lit.int .i64 a2).wf = true) (hT : Tb w) :
    Calls Tryd.prog 5 #[.slice a0 len0 cap0, .slice a1 len1 cap1, .int .i64 a2] w fun e w' => e = .returned (.bool true) ∧ Below w.heap.size w w' := by
  obtain ⟨l0, rfl, hr0, hm0, hw0, hc0⟩ := ReadsInt.ofRowC w0
  obtain ⟨l1, rfl, hr1, hm1, hw1, hc1⟩ := ReadsInt.ofRowC w1
  obtain ⟨k, h⟩ := P l0 l1 a2 hm0 y0 hw0 hm1 y1 hw1 w2
  refine (chancellaw1_TextLonely.calls k _ _ l0 _ _ l1 a2 true w (Kd.C_of_reads (d := (0 : Int)) (h1 := fun _ => rfl) hr0) hc0 (Kd.C_of_reads (d := (0 : Int)) (h1 := fun _ => rfl) hr1) hc1 h hT).mono ?_
  rintro e w' ⟨rfl, hd⟩
  exact ⟨rfl, hd⟩

end Go.Proofs.YtapccgkkcgggiaaDoor.GA
