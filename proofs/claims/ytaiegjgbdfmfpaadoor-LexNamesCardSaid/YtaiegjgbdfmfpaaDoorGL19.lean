-- Written by wip/tools/gprint.py over the kit's printer.
import Derived.Test.YtaiegjgbdfmfpaaDoorGL0
import Derived.Test.YtaiegjgbdfmfpaaDoorGL5
import Derived.Test.YtaiegjgbdfmfpaaDoorGL18
namespace Go.Proofs.YtaiegjgbdfmfpaaDoor.GL
open Go.RowKit Go.Proofs.YtaiegjgbdfmfpaaDoorW.PrintWords Go.Proofs.YtaiegjgbdfmfpaaDoorW.PrintLast Go.Proofs.YtaiegjgbdfmfpaaDoor.HandL Go.Proofs.YtaiegjgbdfmfpaaDoorW.PrintMore
attribute [local go_sem] max2_int min2_int max_two min_two max_three min_three max_four min_four   -- for this text's walks alone
set_option linter.unusedVariables false
set_option linter.unusedSimpArgs false

/-! ### chancellaw4_LexNames: function 7 -/
mutual
def chancellaw4_LexNames.l0 : Nat → List Int → ByteArray → ByteArray → Int → Option (Bool)
  | 0, _, _, _, _ => none
  | k + 1, x0, x5, x6, x7 => if x7 < (x0.length : Int) then (chancellaw4_LexNames.j1 k x0 x5 x6 x7 (decide (x7 < 12))) else (chancellaw4_LexNames.j1 k x0 x5 x6 x7 false)
def chancellaw4_LexNames.j1 : Nat → List Int → ByteArray → ByteArray → Int → Bool → Option (Bool)
  | 0, _, _, _, _, _ => none
  | k + 1, x0, x5, x6, x7, x22 => if x22 = true then (if 0 ≤ x7 then (if x7 < (x0.length : Int) then ((chancellaw4_within.f (rd x0 x7) (x6.size : Int)).bind fun t391 => (if x7 = 0 then (if t391 > 6 then (if (0 : Int) ≤ (0 + 1) then (if (0 + 1) ≤ (x6.size : Int) then (if x5.size + (x6.extract 0 ((0 + 1) : Int).toNat).size ≤ 9223372036854775807 then (chancellaw4_LexNames.l0 k x0 (x5 ++ (x6.extract 0 ((0 + 1) : Int).toNat)) x6 (wrap64 (x7 + 1))) else (none)) else (none)) else (none)) else (if 0 ≤ t391 then (if t391 ≤ (wrap64 (t391 + 1)) then (if (wrap64 (t391 + 1)) ≤ (x6.size : Int) then (if x5.size + (x6.extract (t391 : Int).toNat ((wrap64 (t391 + 1)) : Int).toNat).size ≤ 9223372036854775807 then (chancellaw4_LexNames.l0 k x0 (x5 ++ (x6.extract (t391 : Int).toNat ((wrap64 (t391 + 1)) : Int).toNat)) x6 (wrap64 (x7 + 1))) else (none)) else (none)) else (none)) else (none))) else (if 0 ≤ t391 then (if t391 ≤ (wrap64 (t391 + 1)) then (if (wrap64 (t391 + 1)) ≤ (x6.size : Int) then (if x5.size + (x6.extract (t391 : Int).toNat ((wrap64 (t391 + 1)) : Int).toNat).size ≤ 9223372036854775807 then (chancellaw4_LexNames.l0 k x0 (x5 ++ (x6.extract (t391 : Int).toNat ((wrap64 (t391 + 1)) : Int).toNat)) x6 (wrap64 (x7 + 1))) else (none)) else (none)) else (none)) else (none)))) else (none)) else (none)) else (if x5.toList = ([] : List UInt8) then ((lex_Ident.f x5).bind fun t392 => (some (!t392))) else ((lex_Tokens.f k x5).bind fun bt393 => (if 1 + x5.size ≤ 9223372036854775807 then ((lex_Tokens.f k ((⟨#[55]⟩ : ByteArray) ++ x5)).bind fun bt397 => (if bt393.2 = 0 then (if (bt393.1.length : Int) = 1 then (if 0 < (bt393.1.length : Int) then (if ((rd_T35 bt393.1 0).f0) = 1 then (if ((rd_T35 bt393.1 0).f1).toList = x5.toList then ((lex_Ident.f x5).bind fun t403 => (if t403 = true then ((lex_Ident.f ((⟨#[55]⟩ : ByteArray) ++ x5)).bind fun t404 => (if t404 = true then (some false) else (if bt397.2 = 0 then (if (bt397.1.length : Int) = 2 then (if 0 < (bt397.1.length : Int) then (if ((rd_T35 bt397.1 0).f2) ≥ 7 then (some true) else (some ((bt397.1.length : Int) == 1))) else (none)) else (some ((bt397.1.length : Int) == 1))) else (some false)))) else (some false))) else (some false)) else (some false)) else (none)) else (some false)) else (some false))) else (none))))
end
def chancellaw4_LexNames.f (k : Nat) (l0 : List Int) (a1 : Int) : Option (Bool) := (chancellaw4_known.f k).bind fun t389 => (if t389 = true then (chancellaw4_LexNames.l0 k l0 (⟨#[]⟩ : ByteArray) (⟨#[97, 98, 99, 88, 89, 90, 95, 48, 49, 57]⟩ : ByteArray) 0) else (some false))
theorem chancellaw4_LexNames.mono_l : ∀ k, (∀ y0 y1 y2 y3, LeO (chancellaw4_LexNames.l0 k y0 y1 y2 y3) (chancellaw4_LexNames.l0 (k + 1) y0 y1 y2 y3)) ∧ (∀ y0 y1 y2 y3 y4, LeO (chancellaw4_LexNames.j1 k y0 y1 y2 y3 y4) (chancellaw4_LexNames.j1 (k + 1) y0 y1 y2 y3 y4))
  | 0 => ⟨fun _ _ _ _ r h => by simp [chancellaw4_LexNames.l0] at h, fun _ _ _ _ _ r h => by simp [chancellaw4_LexNames.j1] at h⟩
  | k + 1 => by
    obtain ⟨ih0, ih1⟩ := chancellaw4_LexNames.mono_l k
    refine ⟨?_, ?_⟩
    · intro y0 y1 y2 y3
      unfold chancellaw4_LexNames.l0
      repeat' first
      | (with_reducible exact ih0 _ _ _ _)
      | (with_reducible exact ih1 _ _ _ _ _)
      | (with_reducible exact chancellaw4_known.mono _)
      | (with_reducible exact lex_Tokens.mono _ _)
      | (with_reducible exact LeO.refl _)
      | (with_reducible exact LeO.none _)
      | (with_reducible refine LeO.ite ?_ ?_)
      | (with_reducible refine LeO.bind ?_ (fun _ => ?_))
      | exact ih0 _ _ _ _
      | exact ih1 _ _ _ _ _
      | exact chancellaw4_known.mono _
      | exact lex_Tokens.mono _ _
      | exact LeO.none _
      | refine LeO.ite ?_ ?_
      | refine LeO.bind ?_ (fun _ => ?_)
    · intro y0 y1 y2 y3 y4
      unfold chancellaw4_LexNames.j1
      repeat' first
      | (with_reducible exact ih0 _ _ _ _)
      | (with_reducible exact ih1 _ _ _ _ _)
      | (with_reducible exact chancellaw4_known.mono _)
      | (with_reducible exact lex_Tokens.mono _ _)
      | (with_reducible exact LeO.refl _)
      | (with_reducible exact LeO.none _)
      | (with_reducible refine LeO.ite ?_ ?_)
      | (with_reducible refine LeO.bind ?_ (fun _ => ?_))
      | exact ih0 _ _ _ _
      | exact ih1 _ _ _ _ _
      | exact chancellaw4_known.mono _
      | exact lex_Tokens.mono _ _
      | exact LeO.none _
      | refine LeO.ite ?_ ?_
      | refine LeO.bind ?_ (fun _ => ?_)
theorem chancellaw4_LexNames.mono : ∀ a0 a1 k, LeO (chancellaw4_LexNames.f k a0 a1) (chancellaw4_LexNames.f (k + 1) a0 a1) := by
  intro a0 a1 k
  obtain ⟨ih0, ih1⟩ := chancellaw4_LexNames.mono_l k
  unfold chancellaw4_LexNames.f
  repeat' first
      | (with_reducible exact ih0 _ _ _ _)
      | (with_reducible exact ih1 _ _ _ _ _)
      | (with_reducible exact chancellaw4_known.mono _)
      | (with_reducible exact lex_Tokens.mono _ _)
      | (with_reducible exact LeO.refl _)
      | (with_reducible exact LeO.none _)
      | (with_reducible refine LeO.ite ?_ ?_)
      | (with_reducible refine LeO.bind ?_ (fun _ => ?_))
      | exact ih0 _ _ _ _
      | exact ih1 _ _ _ _ _
      | exact chancellaw4_known.mono _
      | exact lex_Tokens.mono _ _
      | exact LeO.none _
      | refine LeO.ite ?_ ?_
      | refine LeO.bind ?_ (fun _ => ?_)
set_option maxHeartbeats 8000000 in
set_option maxRecDepth 100000 in
theorem chancellaw4_LexNames.calls (k : Nat) (A0 : Option Addr) (c0 : Nat) (l0 : List Int) (a1 : Int) (r : Bool) (w : World) (hr0 : Kd.C (Kd.int .i64) w A0 l0.length l0) (hc0 : l0.length ≤ c0) (h : chancellaw4_LexNames.f k l0 a1 = some r) (hT : Tb w) :
    Calls Tryd.prog 7 #[.slice A0 l0.length c0, .int .i64 a1] w fun e w' => e = .returned (.bool r) ∧ Below w.heap.size w w' := by
  have HR0 := Aside0.mk hr0
  have HC0 := Aside0.mk hc0
  clear hr0 hc0
  have HB := Aside0.mk (Below.refl w.heap.size w)
  have H : ((chancellaw4_known.f k).bind fun t389 => (if t389 = true then (chancellaw4_LexNames.l0 k l0 (⟨#[]⟩ : ByteArray) (⟨#[97, 98, 99, 88, 89, 90, 95, 48, 49, 57]⟩ : ByteArray) 0) else (some false))) = some r := h
  clear h
  have HT := Aside0.mk hT
  clear hT
  replace H := Option.bind_eq_some_iff.mp H
  obtain ⟨t389, A30, H⟩ := H
  replace H : (if t389 = true then (chancellaw4_LexNames.l0 k l0 (⟨#[]⟩ : ByteArray) (⟨#[97, 98, 99, 88, 89, 90, 95, 48, 49, 57]⟩ : ByteArray) 0) else (some false)) = some r := H
  have A3 := Aside0.mk A30
  clear A30
  by_cases c4 : t389 = true
  · subst c4
    have H1 : (chancellaw4_LexNames.l0 k l0 (⟨#[]⟩ : ByteArray) (⟨#[97, 98, 99, 88, 89, 90, 95, 48, 49, 57]⟩ : ByteArray) 0) = some r := by rw [if_pos rfl] at H; exact H
    clear H
    have H := H1
    clear H1
    have H' := Aside0.mk H
    clear H
    go_enter Tryd.func7, Tryd.ntmps7
    go_wp2_with (first | ((with_reducible refine gate_callee (f := 8) rfl ?_); refine goesL_ (some 13) rfl rfl Tryd.func8 (by kernel_rfl) rfl #[] rfl (by (try simp only [List.map_toArray, List.map_cons, List.map_nil]); first | done | rfl | (simp only [List.length_drop, List.length_take]; rfl)) ?_; (with_reducible refine (chancellaw4_known.calls k  true _ A3.out ?side1).mono ?_); (case side1 => exact Tb.below HT.out (by repeat (first | (with_reducible first | exact HB.out | apply below_alloc | apply pw_below_drewN | apply below_drew1) | exact HB.out))); rintro e w5 ⟨rfl, hb⟩; refine ⟨_, rfl, ?_⟩; have n0_ := Aside0.mk (below_step (by repeat (first | (with_reducible first | exact HB.out | apply below_alloc | apply pw_below_drewN | apply below_drew1) | exact HB.out)) hb); clear HB; have HB := n0_; clear n0_; (try clear hb); (try clear hb2); (try clear hk); (try clear hi)))
    go_loopg [5, 7] k (fun kq v5 v7 w' => ∃ (x5_1 : ByteArray) (x7_1 : Int), v5 = .string x5_1 ∧ v7 = .int .i64 x7_1 ∧ Aside0 (chancellaw4_LexNames.l0 kq l0 x5_1 (⟨#[97, 98, 99, 88, 89, 90, 95, 48, 49, 57]⟩ : ByteArray) x7_1 = some r) ∧ Aside0 (kq ≤ k) ∧ Aside0 (Below w.heap.size w w'))
    case atStart => exact ⟨((⟨#[]⟩ : ByteArray)), (0), (by first | rfl | (simp; done) | (simp [*]; done)), (by first | rfl | (simp; done) | (simp [*]; done)), H', ⟨Nat.le_refl _⟩, ⟨by repeat (first | (with_reducible first | exact HB.out | apply below_alloc | apply pw_below_drewN | apply below_drew1) | exact HB.out)⟩⟩
    case round =>
      clear H'
      try clear p2
      try clear c4
      obtain ⟨x5_1, x7_1, rfl, rfl, HA, HK1, HB⟩ := hrel
      cases gk with
      | zero => exact absurd HA.out (by simp [chancellaw4_LexNames.l0])
      | succ k1 =>
        have H := HA.out
        clear HA
        simp only [chancellaw4_LexNames.l0] at H
        have HC6 := Aside0.mk H
        clear H
        go_upto_region 6 with (fail)
        go_cut [22] (fun v22 wc => ∃ (kq : Nat) (x22_5 : Bool), v22 = .bool x22_5 ∧ Aside0 (chancellaw4_LexNames.j1 kq l0 x5_1 (⟨#[97, 98, 99, 88, 89, 90, 95, 48, 49, 57]⟩ : ByteArray) x7_1 x22_5 = some r) ∧ Aside0 (kq ≤ k1) ∧ Aside0 (Below w.heap.size w wc))
        case first =>
          have H := HC6.out
          clear HC6
          by_cases c7 : x7_1 < (l0.length : Int)
          · rw [if_pos c7] at H
            have c7b0 : decide (x7_1 < (l0.length : Int)) = true := decide_eq_true c7
            clear c7
            (first | rw [c7b0] | (simp only [i64_w, i32_w]; rw [c7b0]) | skip)
            have H' := Aside0.mk H
            clear H
            go_wp2
            go_meet
            case rel => exact ⟨_, (decide (x7_1 < 12)), (by first | rfl | (simp; done) | (simp [*]; done)), H', ⟨by have := HK1.out; first | omega | exact Nat.le_refl _⟩, ⟨by repeat (first | (with_reducible first | exact HB.out | apply below_alloc | apply pw_below_drewN | apply below_drew1) | exact HB.out)⟩⟩
          · rw [if_neg c7] at H
            have c7b0 : decide (x7_1 < (l0.length : Int)) = false := decide_eq_false c7
            clear c7
            (first | rw [c7b0] | (simp only [i64_w, i32_w]; rw [c7b0]) | skip)
            have H' := Aside0.mk H
            clear H
            go_wp2
            go_meet
            case rel => exact ⟨_, (false), (by first | rfl | (simp; done) | (simp [*]; done)), H', ⟨by have := HK1.out; first | omega | exact Nat.le_refl _⟩, ⟨by repeat (first | (with_reducible first | exact HB.out | apply below_alloc | apply pw_below_drewN | apply below_drew1) | exact HB.out)⟩⟩
        case rest =>
          clear HC6
          try clear p2
          try clear c4
          try clear c7
          try clear c7b0
          try clear p2
          obtain ⟨kq, x22_5, rfl, HA, HJ5, HB⟩ := hcut
          cases kq with
          | zero => exact absurd HA.out (by simp [chancellaw4_LexNames.j1])
          | succ kj5 =>
            have H := HA.out
            clear HA
            simp only [chancellaw4_LexNames.j1] at H
            by_cases c8 : x22_5 = true
            · subst c8
              have H1 : (if 0 ≤ x7_1 then (if x7_1 < (l0.length : Int) then ((chancellaw4_within.f (rd l0 x7_1) ((⟨#[97, 98, 99, 88, 89, 90, 95, 48, 49, 57]⟩ : ByteArray).size : Int)).bind fun t391 => (if x7_1 = 0 then (if t391 > 6 then (if (0 : Int) ≤ (0 + 1) then (if (0 + 1) ≤ ((⟨#[97, 98, 99, 88, 89, 90, 95, 48, 49, 57]⟩ : ByteArray).size : Int) then (if x5_1.size + ((⟨#[97, 98, 99, 88, 89, 90, 95, 48, 49, 57]⟩ : ByteArray).extract 0 ((0 + 1) : Int).toNat).size ≤ 9223372036854775807 then (chancellaw4_LexNames.l0 kj5 l0 (x5_1 ++ ((⟨#[97, 98, 99, 88, 89, 90, 95, 48, 49, 57]⟩ : ByteArray).extract 0 ((0 + 1) : Int).toNat)) (⟨#[97, 98, 99, 88, 89, 90, 95, 48, 49, 57]⟩ : ByteArray) (wrap64 (x7_1 + 1))) else (none)) else (none)) else (none)) else (if 0 ≤ t391 then (if t391 ≤ (wrap64 (t391 + 1)) then (if (wrap64 (t391 + 1)) ≤ ((⟨#[97, 98, 99, 88, 89, 90, 95, 48, 49, 57]⟩ : ByteArray).size : Int) then (if x5_1.size + ((⟨#[97, 98, 99, 88, 89, 90, 95, 48, 49, 57]⟩ : ByteArray).extract (t391 : Int).toNat ((wrap64 (t391 + 1)) : Int).toNat).size ≤ 9223372036854775807 then (chancellaw4_LexNames.l0 kj5 l0 (x5_1 ++ ((⟨#[97, 98, 99, 88, 89, 90, 95, 48, 49, 57]⟩ : ByteArray).extract (t391 : Int).toNat ((wrap64 (t391 + 1)) : Int).toNat)) (⟨#[97, 98, 99, 88, 89, 90, 95, 48, 49, 57]⟩ : ByteArray) (wrap64 (x7_1 + 1))) else (none)) else (none)) else (none)) else (none))) else (if 0 ≤ t391 then (if t391 ≤ (wrap64 (t391 + 1)) then (if (wrap64 (t391 + 1)) ≤ ((⟨#[97, 98, 99, 88, 89, 90, 95, 48, 49, 57]⟩ : ByteArray).size : Int) then (if x5_1.size + ((⟨#[97, 98, 99, 88, 89, 90, 95, 48, 49, 57]⟩ : ByteArray).extract (t391 : Int).toNat ((wrap64 (t391 + 1)) : Int).toNat).size ≤ 9223372036854775807 then (chancellaw4_LexNames.l0 kj5 l0 (x5_1 ++ ((⟨#[97, 98, 99, 88, 89, 90, 95, 48, 49, 57]⟩ : ByteArray).extract (t391 : Int).toNat ((wrap64 (t391 + 1)) : Int).toNat)) (⟨#[97, 98, 99, 88, 89, 90, 95, 48, 49, 57]⟩ : ByteArray) (wrap64 (x7_1 + 1))) else (none)) else (none)) else (none)) else (none)))) else (none)) else (none)) = some r := by rw [if_pos rfl] at H; exact H
              clear H
              have H := H1
              clear H1
              by_cases c9 : 0 ≤ x7_1
              · rw [if_pos c9] at H
                have c9b0 : decide (0 ≤ x7_1) = true := decide_eq_true c9
                clear c9
                by_cases c10 : x7_1 < (l0.length : Int)
                · rw [if_pos c10] at H
                  have c10b0 : decide (x7_1 < (l0.length : Int)) = true := decide_eq_true c10
                  clear c10
                  replace H := Option.bind_eq_some_iff.mp H
                  obtain ⟨t391, A110, H⟩ := H
                  replace H : (if x7_1 = 0 then (if t391 > 6 then (if (0 : Int) ≤ (0 + 1) then (if (0 + 1) ≤ ((⟨#[97, 98, 99, 88, 89, 90, 95, 48, 49, 57]⟩ : ByteArray).size : Int) then (if x5_1.size + ((⟨#[97, 98, 99, 88, 89, 90, 95, 48, 49, 57]⟩ : ByteArray).extract 0 ((0 + 1) : Int).toNat).size ≤ 9223372036854775807 then (chancellaw4_LexNames.l0 kj5 l0 (x5_1 ++ ((⟨#[97, 98, 99, 88, 89, 90, 95, 48, 49, 57]⟩ : ByteArray).extract 0 ((0 + 1) : Int).toNat)) (⟨#[97, 98, 99, 88, 89, 90, 95, 48, 49, 57]⟩ : ByteArray) (wrap64 (x7_1 + 1))) else (none)) else (none)) else (none)) else (if 0 ≤ t391 then (if t391 ≤ (wrap64 (t391 + 1)) then (if (wrap64 (t391 + 1)) ≤ ((⟨#[97, 98, 99, 88, 89, 90, 95, 48, 49, 57]⟩ : ByteArray).size : Int) then (if x5_1.size + ((⟨#[97, 98, 99, 88, 89, 90, 95, 48, 49, 57]⟩ : ByteArray).extract (t391 : Int).toNat ((wrap64 (t391 + 1)) : Int).toNat).size ≤ 9223372036854775807 then (chancellaw4_LexNames.l0 kj5 l0 (x5_1 ++ ((⟨#[97, 98, 99, 88, 89, 90, 95, 48, 49, 57]⟩ : ByteArray).extract (t391 : Int).toNat ((wrap64 (t391 + 1)) : Int).toNat)) (⟨#[97, 98, 99, 88, 89, 90, 95, 48, 49, 57]⟩ : ByteArray) (wrap64 (x7_1 + 1))) else (none)) else (none)) else (none)) else (none))) else (if 0 ≤ t391 then (if t391 ≤ (wrap64 (t391 + 1)) then (if (wrap64 (t391 + 1)) ≤ ((⟨#[97, 98, 99, 88, 89, 90, 95, 48, 49, 57]⟩ : ByteArray).size : Int) then (if x5_1.size + ((⟨#[97, 98, 99, 88, 89, 90, 95, 48, 49, 57]⟩ : ByteArray).extract (t391 : Int).toNat ((wrap64 (t391 + 1)) : Int).toNat).size ≤ 9223372036854775807 then (chancellaw4_LexNames.l0 kj5 l0 (x5_1 ++ ((⟨#[97, 98, 99, 88, 89, 90, 95, 48, 49, 57]⟩ : ByteArray).extract (t391 : Int).toNat ((wrap64 (t391 + 1)) : Int).toNat)) (⟨#[97, 98, 99, 88, 89, 90, 95, 48, 49, 57]⟩ : ByteArray) (wrap64 (x7_1 + 1))) else (none)) else (none)) else (none)) else (none))) = some r := H
                  have A11 := Aside0.mk A110
                  clear A110
                  by_cases c12 : x7_1 = 0
                  · rw [if_pos c12] at H
                    have c12b0 : (x7_1 == 0) = true := beq_iff_eq.mpr c12
                    have c12b1 : (x7_1 != 0) = false := bne_eq_false_iff_eq.mpr c12
                    clear c12
                    by_cases c13 : t391 > 6
                    · rw [if_pos c13] at H
                      have c13b0 : decide (6 < t391) = true := decide_eq_true c13
                      clear c13
                      obtain ⟨ji14, hji14⟩ : ∃ j_ : Int, (0 + 1) = j_ := ⟨_, rfl⟩
                      replace H : (if 0 ≤ (ji14) then (if (ji14) ≤ ((⟨#[97, 98, 99, 88, 89, 90, 95, 48, 49, 57]⟩ : ByteArray).size : Int) then (if x5_1.size + ((⟨#[97, 98, 99, 88, 89, 90, 95, 48, 49, 57]⟩ : ByteArray).extract 0 ((ji14) : Int).toNat).size ≤ 9223372036854775807 then (chancellaw4_LexNames.l0 kj5 l0 (x5_1 ++ ((⟨#[97, 98, 99, 88, 89, 90, 95, 48, 49, 57]⟩ : ByteArray).extract 0 ((ji14) : Int).toNat)) (⟨#[97, 98, 99, 88, 89, 90, 95, 48, 49, 57]⟩ : ByteArray) (wrap64 (x7_1 + 1))) else (none)) else (none)) else (none)) = some r := by first | (rw [hji14] at H; exact H) | (simp only [hji14] at H ⊢; exact H)
                      (try rw [hji14] at A11)
                      by_cases c15 : 0 ≤ (ji14)
                      · rw [if_pos c15] at H
                        have c15b0 := eq_true c15
                        have c15b1 : decide (0 ≤ (ji14)) = true := decide_eq_true c15
                        clear c15
                        by_cases c16 : (ji14) ≤ ((⟨#[97, 98, 99, 88, 89, 90, 95, 48, 49, 57]⟩ : ByteArray).size : Int)
                        · rw [if_pos c16] at H
                          have c16b0 := eq_true c16
                          have c16b1 : decide ((ji14) ≤ ((⟨#[97, 98, 99, 88, 89, 90, 95, 48, 49, 57]⟩ : ByteArray).size : Int)) = true := decide_eq_true c16
                          (try (have c16m_ : ((ji14) ≤ (10 : Int)) = True := eq_true (show (ji14) ≤ (10 : Int) from of_decide_eq_true c16b1)))
                          clear c16
                          by_cases c17 : x5_1.size + ((⟨#[97, 98, 99, 88, 89, 90, 95, 48, 49, 57]⟩ : ByteArray).extract 0 ((ji14) : Int).toNat).size ≤ 9223372036854775807
                          · rw [if_pos c17] at H
                            have c17b0 := eq_true c17
                            have c17b1 : decide (x5_1.size + ((⟨#[97, 98, 99, 88, 89, 90, 95, 48, 49, 57]⟩ : ByteArray).extract 0 ((ji14) : Int).toNat).size ≤ 9223372036854775807) = true := decide_eq_true c17
                            try have c17b2 : (9223372036854775807 < x5_1.size + ((⟨#[97, 98, 99, 88, 89, 90, 95, 48, 49, 57]⟩ : ByteArray).extract 0 ((ji14) : Int).toNat).size) = False := eq_false (Nat.not_lt.2 c17)
                            have H' := Aside0.mk H
                            clear H
                            have p390 : 0 ≤ (x7_1 : Int) := of_decide_eq_true (by first | (with_reducible assumption) | assumption)
                            have q390 : x7_1 < (l0.length : Int) := of_decide_eq_true (by first | (with_reducible assumption) | assumption)
                            obtain ⟨ad390, e390, hx390_0⟩ := Kd.at_int HR0.out x7_1 p390 q390
                            cases e390
                            replace hx390_0 := (HB.out.cell (World.block_lt_of_cell? w _ hx390_0)).trans hx390_0
                            replace p390 := eq_true p390
                            replace q390 := eq_true q390
                            go_wp2_with (first | ((with_reducible refine gate_callee (f := 11) rfl ?_); refine goesL_ (some 31) rfl rfl Tryd.func11 (by kernel_rfl) rfl #[.int .i64 (rd l0 x7_1), .int .i64 ((⟨#[97, 98, 99, 88, 89, 90, 95, 48, 49, 57]⟩ : ByteArray).size : Int)] rfl (by (try simp only [List.map_toArray, List.map_cons, List.map_nil]); first | done | rfl | (simp only [List.length_drop, List.length_take]; rfl)) ?_; (with_reducible refine (chancellaw4_within.calls (rd l0 x7_1) ((⟨#[97, 98, 99, 88, 89, 90, 95, 48, 49, 57]⟩ : ByteArray).size : Int) t391 _ A11.out).mono ?_); rintro e w' ⟨rfl, ⟨nd, rfl⟩⟩; refine ⟨_, rfl, ?_⟩))
                            go_roundg kj5
                            case measure => have := HK1.out; have := HJ5.out; omega
                            case rel => exact ⟨(x5_1 ++ ((⟨#[97, 98, 99, 88, 89, 90, 95, 48, 49, 57]⟩ : ByteArray).extract 0 ((ji14) : Int).toNat)), (wrap64 (x7_1 + 1)), (by first | rfl | (simp; done) | (simp only [← hji14] <;> (first | rfl | (simp; done)); done) | (simp [*]; done)), (by first | rfl | (simp; done) | (simp [*]; done)), H', ⟨by have := HK1.out; have := HJ5.out; omega⟩, ⟨by repeat (first | (with_reducible first | exact HB.out | apply below_alloc | apply pw_below_drewN | apply below_drew1) | exact HB.out)⟩⟩
                          · rw [if_neg c17] at H
                            exact absurd H (by simp)
                        · rw [if_neg c16] at H
                          exact absurd H (by simp)
                      · rw [if_neg c15] at H
                        exact absurd H (by simp)
                    · rw [if_neg c13] at H
                      have c13b0 : decide (6 < t391) = false := decide_eq_false c13
                      clear c13
                      by_cases c18 : 0 ≤ t391
                      · rw [if_pos c18] at H
                        have c18b0 := eq_true c18
                        have c18b1 : decide (0 ≤ t391) = true := decide_eq_true c18
                        clear c18
                        by_cases c19 : t391 ≤ (wrap64 (t391 + 1))
                        · rw [if_pos c19] at H
                          have c19b0 := eq_true c19
                          have c19b1 : decide (t391 ≤ (wrap64 (t391 + 1))) = true := decide_eq_true c19
                          by_cases c20 : (wrap64 (t391 + 1)) ≤ ((⟨#[97, 98, 99, 88, 89, 90, 95, 48, 49, 57]⟩ : ByteArray).size : Int)
                          · rw [if_pos c20] at H
                            have c20b0 := eq_true c20
                            have c20b1 : decide ((wrap64 (t391 + 1)) ≤ ((⟨#[97, 98, 99, 88, 89, 90, 95, 48, 49, 57]⟩ : ByteArray).size : Int)) = true := decide_eq_true c20
                            (try (have c20m_ : ((wrap64 (t391 + 1)) ≤ (10 : Int)) = True := eq_true (show (wrap64 (t391 + 1)) ≤ (10 : Int) from of_decide_eq_true c20b1)))
                            by_cases c21 : x5_1.size + ((⟨#[97, 98, 99, 88, 89, 90, 95, 48, 49, 57]⟩ : ByteArray).extract (t391 : Int).toNat ((wrap64 (t391 + 1)) : Int).toNat).size ≤ 9223372036854775807
                            · rw [if_pos c21] at H
                              have c21b0 := eq_true c21
                              have c21b1 : decide (x5_1.size + ((⟨#[97, 98, 99, 88, 89, 90, 95, 48, 49, 57]⟩ : ByteArray).extract (t391 : Int).toNat ((wrap64 (t391 + 1)) : Int).toNat).size ≤ 9223372036854775807) = true := decide_eq_true c21
                              try have c21b2 : (9223372036854775807 < x5_1.size + ((⟨#[97, 98, 99, 88, 89, 90, 95, 48, 49, 57]⟩ : ByteArray).extract (t391 : Int).toNat ((wrap64 (t391 + 1)) : Int).toNat).size) = False := eq_false (Nat.not_lt.2 c21)
                              have H' := Aside0.mk H
                              clear H
                              have p390 : 0 ≤ (x7_1 : Int) := of_decide_eq_true (by first | (with_reducible assumption) | assumption)
                              have q390 : x7_1 < (l0.length : Int) := of_decide_eq_true (by first | (with_reducible assumption) | assumption)
                              obtain ⟨ad390, e390, hx390_0⟩ := Kd.at_int HR0.out x7_1 p390 q390
                              cases e390
                              replace hx390_0 := (HB.out.cell (World.block_lt_of_cell? w _ hx390_0)).trans hx390_0
                              replace p390 := eq_true p390
                              replace q390 := eq_true q390
                              go_wp2_with (first | ((with_reducible refine gate_callee (f := 11) rfl ?_); refine goesL_ (some 31) rfl rfl Tryd.func11 (by kernel_rfl) rfl #[.int .i64 (rd l0 x7_1), .int .i64 ((⟨#[97, 98, 99, 88, 89, 90, 95, 48, 49, 57]⟩ : ByteArray).size : Int)] rfl (by (try simp only [List.map_toArray, List.map_cons, List.map_nil]); first | done | rfl | (simp only [List.length_drop, List.length_take]; rfl)) ?_; (with_reducible refine (chancellaw4_within.calls (rd l0 x7_1) ((⟨#[97, 98, 99, 88, 89, 90, 95, 48, 49, 57]⟩ : ByteArray).size : Int) t391 _ A11.out).mono ?_); rintro e w' ⟨rfl, ⟨nd, rfl⟩⟩; refine ⟨_, rfl, ?_⟩))
                              go_roundg kj5
                              case measure => have := HK1.out; have := HJ5.out; omega
                              case rel => exact ⟨(x5_1 ++ ((⟨#[97, 98, 99, 88, 89, 90, 95, 48, 49, 57]⟩ : ByteArray).extract (t391 : Int).toNat ((wrap64 (t391 + 1)) : Int).toNat)), (wrap64 (x7_1 + 1)), (by first | rfl | (simp; done) | (simp [*]; done)), (by first | rfl | (simp; done) | (simp [*]; done)), H', ⟨by have := HK1.out; have := HJ5.out; omega⟩, ⟨by repeat (first | (with_reducible first | exact HB.out | apply below_alloc | apply pw_below_drewN | apply below_drew1) | exact HB.out)⟩⟩
                            · rw [if_neg c21] at H
                              exact absurd H (by simp)
                          · rw [if_neg c20] at H
                            exact absurd H (by simp)
                        · rw [if_neg c19] at H
                          exact absurd H (by simp)
                      · rw [if_neg c18] at H
                        exact absurd H (by simp)
                  · rw [if_neg c12] at H
                    have c12b0 : (x7_1 == 0) = false := beq_eq_false_iff_ne.mpr c12
                    have c12b1 : (x7_1 != 0) = true := bne_iff_ne.mpr c12
                    by_cases c22 : 0 ≤ t391
                    · rw [if_pos c22] at H
                      have c22b0 := eq_true c22
                      have c22b1 : decide (0 ≤ t391) = true := decide_eq_true c22
                      clear c22
                      by_cases c23 : t391 ≤ (wrap64 (t391 + 1))
                      · rw [if_pos c23] at H
                        have c23b0 := eq_true c23
                        have c23b1 : decide (t391 ≤ (wrap64 (t391 + 1))) = true := decide_eq_true c23
                        by_cases c24 : (wrap64 (t391 + 1)) ≤ ((⟨#[97, 98, 99, 88, 89, 90, 95, 48, 49, 57]⟩ : ByteArray).size : Int)
                        · rw [if_pos c24] at H
                          have c24b0 := eq_true c24
                          have c24b1 : decide ((wrap64 (t391 + 1)) ≤ ((⟨#[97, 98, 99, 88, 89, 90, 95, 48, 49, 57]⟩ : ByteArray).size : Int)) = true := decide_eq_true c24
                          (try (have c24m_ : ((wrap64 (t391 + 1)) ≤ (10 : Int)) = True := eq_true (show (wrap64 (t391 + 1)) ≤ (10 : Int) from of_decide_eq_true c24b1)))
                          by_cases c25 : x5_1.size + ((⟨#[97, 98, 99, 88, 89, 90, 95, 48, 49, 57]⟩ : ByteArray).extract (t391 : Int).toNat ((wrap64 (t391 + 1)) : Int).toNat).size ≤ 9223372036854775807
                          · rw [if_pos c25] at H
                            have c25b0 := eq_true c25
                            have c25b1 : decide (x5_1.size + ((⟨#[97, 98, 99, 88, 89, 90, 95, 48, 49, 57]⟩ : ByteArray).extract (t391 : Int).toNat ((wrap64 (t391 + 1)) : Int).toNat).size ≤ 9223372036854775807) = true := decide_eq_true c25
                            try have c25b2 : (9223372036854775807 < x5_1.size + ((⟨#[97, 98, 99, 88, 89, 90, 95, 48, 49, 57]⟩ : ByteArray).extract (t391 : Int).toNat ((wrap64 (t391 + 1)) : Int).toNat).size) = False := eq_false (Nat.not_lt.2 c25)
                            have H' := Aside0.mk H
                            clear H
                            have p390 : 0 ≤ (x7_1 : Int) := of_decide_eq_true (by first | (with_reducible assumption) | assumption)
                            have q390 : x7_1 < (l0.length : Int) := of_decide_eq_true (by first | (with_reducible assumption) | assumption)
                            obtain ⟨ad390, e390, hx390_0⟩ := Kd.at_int HR0.out x7_1 p390 q390
                            cases e390
                            replace hx390_0 := (HB.out.cell (World.block_lt_of_cell? w _ hx390_0)).trans hx390_0
                            replace p390 := eq_true p390
                            replace q390 := eq_true q390
                            go_wp2_with (first | ((with_reducible refine gate_callee (f := 11) rfl ?_); refine goesL_ (some 31) rfl rfl Tryd.func11 (by kernel_rfl) rfl #[.int .i64 (rd l0 x7_1), .int .i64 ((⟨#[97, 98, 99, 88, 89, 90, 95, 48, 49, 57]⟩ : ByteArray).size : Int)] rfl (by (try simp only [List.map_toArray, List.map_cons, List.map_nil]); first | done | rfl | (simp only [List.length_drop, List.length_take]; rfl)) ?_; (with_reducible refine (chancellaw4_within.calls (rd l0 x7_1) ((⟨#[97, 98, 99, 88, 89, 90, 95, 48, 49, 57]⟩ : ByteArray).size : Int) t391 _ A11.out).mono ?_); rintro e w' ⟨rfl, ⟨nd, rfl⟩⟩; refine ⟨_, rfl, ?_⟩))
                            go_roundg kj5
                            case measure => have := HK1.out; have := HJ5.out; omega
                            case rel => exact ⟨(x5_1 ++ ((⟨#[97, 98, 99, 88, 89, 90, 95, 48, 49, 57]⟩ : ByteArray).extract (t391 : Int).toNat ((wrap64 (t391 + 1)) : Int).toNat)), (wrap64 (x7_1 + 1)), (by first | rfl | (simp; done) | (simp [*]; done)), (by first | rfl | (simp; done) | (simp [*]; done)), H', ⟨by have := HK1.out; have := HJ5.out; omega⟩, ⟨by repeat (first | (with_reducible first | exact HB.out | apply below_alloc | apply pw_below_drewN | apply below_drew1) | exact HB.out)⟩⟩
                          · rw [if_neg c25] at H
                            exact absurd H (by simp)
                        · rw [if_neg c24] at H
                          exact absurd H (by simp)
                      · rw [if_neg c23] at H
                        exact absurd H (by simp)
                    · rw [if_neg c22] at H
                      exact absurd H (by simp)
                · rw [if_neg c10] at H
                  exact absurd H (by simp)
              · rw [if_neg c9] at H
                exact absurd H (by simp)
            · replace c8 := Bool.eq_false_iff.mpr c8
              subst c8
              have H1 : (if x5_1.toList = ([] : List UInt8) then ((lex_Ident.f x5_1).bind fun t392 => (some (!t392))) else ((lex_Tokens.f kj5 x5_1).bind fun bt393 => (if 1 + x5_1.size ≤ 9223372036854775807 then ((lex_Tokens.f kj5 ((⟨#[55]⟩ : ByteArray) ++ x5_1)).bind fun bt397 => (if bt393.2 = 0 then (if (bt393.1.length : Int) = 1 then (if 0 < (bt393.1.length : Int) then (if ((rd_T35 bt393.1 0).f0) = 1 then (if ((rd_T35 bt393.1 0).f1).toList = x5_1.toList then ((lex_Ident.f x5_1).bind fun t403 => (if t403 = true then ((lex_Ident.f ((⟨#[55]⟩ : ByteArray) ++ x5_1)).bind fun t404 => (if t404 = true then (some false) else (if bt397.2 = 0 then (if (bt397.1.length : Int) = 2 then (if 0 < (bt397.1.length : Int) then (if ((rd_T35 bt397.1 0).f2) ≥ 7 then (some true) else (some ((bt397.1.length : Int) == 1))) else (none)) else (some ((bt397.1.length : Int) == 1))) else (some false)))) else (some false))) else (some false)) else (some false)) else (none)) else (some false)) else (some false))) else (none)))) = some r := by rw [if_neg (show ¬ (false = true) by decide)] at H; exact H
              clear H
              have H := H1
              clear H1
              by_cases c26 : x5_1.toList = ([] : List UInt8)
              · rw [if_pos c26] at H
                have c26b0 : (x5_1.toList == ([] : List UInt8)) = true := beq_iff_eq.mpr c26
                have c26b1 : (x5_1.toList != ([] : List UInt8)) = false := bne_eq_false_iff_eq.mpr c26
                clear c26
                replace H := Option.bind_eq_some_iff.mp H
                obtain ⟨t392, A270, H⟩ := H
                replace H : (some (!t392)) = some r := H
                have A27 := Aside0.mk A270
                clear A270
                obtain rfl := Option.some.inj H
                go_wp2_with (first | ((with_reducible refine gate_callee (f := 17) rfl ?_); refine goesL_ (some 48) rfl rfl Tryd.func17 (by kernel_rfl) rfl #[.string x5_1] rfl (by (try simp only [List.map_toArray, List.map_cons, List.map_nil]); first | done | rfl | (simp only [List.length_drop, List.length_take]; rfl)) ?_; (with_reducible refine (lex_Ident.calls x5_1 t392 _ A27.out).mono ?_); rintro e w28 ⟨rfl, hb⟩; refine ⟨_, rfl, ?_⟩; have n0_ := Aside0.mk (below_step (by repeat (first | (with_reducible first | exact HB.out | apply below_alloc | apply pw_below_drewN | apply below_drew1) | exact HB.out)) hb); clear HB; have HB := n0_; clear n0_; (try clear hb); (try clear hb2); (try clear hk); (try clear hi)))
                go_ret
                exact ⟨by first | rfl | (simp [errW_none, errW_some] <;> rfl) | (simp [*, errW_none, errW_some] <;> rfl), by repeat (first | (with_reducible first | exact HB.out | apply below_alloc | apply pw_below_drewN | apply below_drew1) | exact HB.out)⟩
              · rw [if_neg c26] at H
                have c26b0 : (x5_1.toList == ([] : List UInt8)) = false := beq_eq_false_iff_ne.mpr c26
                have c26b1 : (x5_1.toList != ([] : List UInt8)) = true := bne_iff_ne.mpr c26
                replace H := Option.bind_eq_some_iff.mp H
                obtain ⟨⟨t393, t394⟩, A290, H⟩ := H
                replace H : (if 1 + x5_1.size ≤ 9223372036854775807 then ((lex_Tokens.f kj5 ((⟨#[55]⟩ : ByteArray) ++ x5_1)).bind fun bt397 => (if t394 = 0 then (if (t393.length : Int) = 1 then (if 0 < (t393.length : Int) then (if ((rd_T35 t393 0).f0) = 1 then (if ((rd_T35 t393 0).f1).toList = x5_1.toList then ((lex_Ident.f x5_1).bind fun t403 => (if t403 = true then ((lex_Ident.f ((⟨#[55]⟩ : ByteArray) ++ x5_1)).bind fun t404 => (if t404 = true then (some false) else (if bt397.2 = 0 then (if (bt397.1.length : Int) = 2 then (if 0 < (bt397.1.length : Int) then (if ((rd_T35 bt397.1 0).f2) ≥ 7 then (some true) else (some ((bt397.1.length : Int) == 1))) else (none)) else (some ((bt397.1.length : Int) == 1))) else (some false)))) else (some false))) else (some false)) else (some false)) else (none)) else (some false)) else (some false))) else (none)) = some r := H
                have A29 := Aside0.mk A290
                clear A290
                by_cases c30 : 1 + x5_1.size ≤ 9223372036854775807
                · rw [if_pos c30] at H
                  have c30b0 := eq_true c30
                  have c30b1 : decide (1 + x5_1.size ≤ 9223372036854775807) = true := decide_eq_true c30
                  try have c30b2 : (9223372036854775807 < 1 + x5_1.size) = False := eq_false (Nat.not_lt.2 c30)
                  replace H := Option.bind_eq_some_iff.mp H
                  obtain ⟨⟨t397, t398⟩, A310, H⟩ := H
                  replace H : (if t394 = 0 then (if (t393.length : Int) = 1 then (if 0 < (t393.length : Int) then (if ((rd_T35 t393 0).f0) = 1 then (if ((rd_T35 t393 0).f1).toList = x5_1.toList then ((lex_Ident.f x5_1).bind fun t403 => (if t403 = true then ((lex_Ident.f ((⟨#[55]⟩ : ByteArray) ++ x5_1)).bind fun t404 => (if t404 = true then (some false) else (if t398 = 0 then (if (t397.length : Int) = 2 then (if 0 < (t397.length : Int) then (if ((rd_T35 t397 0).f2) ≥ 7 then (some true) else (some ((t397.length : Int) == 1))) else (none)) else (some ((t397.length : Int) == 1))) else (some false)))) else (some false))) else (some false)) else (some false)) else (none)) else (some false)) else (some false)) = some r := H
                  have A31 := Aside0.mk A310
                  clear A310
                  by_cases c32 : t394 = 0
                  · rw [if_pos c32] at H
                    have c32b0 : (t394 == 0) = true := beq_iff_eq.mpr c32
                    have c32b1 : (t394 != 0) = false := bne_eq_false_iff_eq.mpr c32
                    clear c32
                    by_cases c33 : (t393.length : Int) = 1
                    · rw [if_pos c33] at H
                      have c33b0 : ((t393.length : Int) == 1) = true := beq_iff_eq.mpr c33
                      have c33b1 : ((t393.length : Int) != 1) = false := bne_eq_false_iff_eq.mpr c33
                      clear c33
                      by_cases c34 : 0 < (t393.length : Int)
                      · rw [if_pos c34] at H
                        have c34b0 : decide (0 < (t393.length : Int)) = true := decide_eq_true c34
                        have c34b1 : decide (0 < t393.length) = true := decide_eq_true (by omega)
                        clear c34
                        by_cases c35 : ((rd_T35 t393 0).f0) = 1
                        · rw [if_pos c35] at H
                          have c35b0 : (((rd_T35 t393 0).f0) == 1) = true := beq_iff_eq.mpr c35
                          have c35b1 : (((rd_T35 t393 0).f0) != 1) = false := bne_eq_false_iff_eq.mpr c35
                          clear c35
                          by_cases c36 : ((rd_T35 t393 0).f1).toList = x5_1.toList
                          · rw [if_pos c36] at H
                            have c36b0 : (((rd_T35 t393 0).f1).toList == x5_1.toList) = true := beq_iff_eq.mpr c36
                            have c36b1 : (((rd_T35 t393 0).f1).toList != x5_1.toList) = false := bne_eq_false_iff_eq.mpr c36
                            clear c36
                            replace H := Option.bind_eq_some_iff.mp H
                            obtain ⟨t403, A370, H⟩ := H
                            replace H : (if t403 = true then ((lex_Ident.f ((⟨#[55]⟩ : ByteArray) ++ x5_1)).bind fun t404 => (if t404 = true then (some false) else (if t398 = 0 then (if (t397.length : Int) = 2 then (if 0 < (t397.length : Int) then (if ((rd_T35 t397 0).f2) ≥ 7 then (some true) else (some ((t397.length : Int) == 1))) else (none)) else (some ((t397.length : Int) == 1))) else (some false)))) else (some false)) = some r := H
                            have A37 := Aside0.mk A370
                            clear A370
                            by_cases c38 : t403 = true
                            · subst c38
                              have H1 : ((lex_Ident.f ((⟨#[55]⟩ : ByteArray) ++ x5_1)).bind fun t404 => (if t404 = true then (some false) else (if t398 = 0 then (if (t397.length : Int) = 2 then (if 0 < (t397.length : Int) then (if ((rd_T35 t397 0).f2) ≥ 7 then (some true) else (some ((t397.length : Int) == 1))) else (none)) else (some ((t397.length : Int) == 1))) else (some false)))) = some r := by rw [if_pos rfl] at H; exact H
                              clear H
                              have H := H1
                              clear H1
                              replace H := Option.bind_eq_some_iff.mp H
                              obtain ⟨t404, A390, H⟩ := H
                              replace H : (if t404 = true then (some false) else (if t398 = 0 then (if (t397.length : Int) = 2 then (if 0 < (t397.length : Int) then (if ((rd_T35 t397 0).f2) ≥ 7 then (some true) else (some ((t397.length : Int) == 1))) else (none)) else (some ((t397.length : Int) == 1))) else (some false))) = some r := H
                              have A39 := Aside0.mk A390
                              clear A390
                              by_cases c40 : t404 = true
                              · subst c40
                                have H1 : (some false) = some r := by rw [if_pos rfl] at H; exact H
                                clear H
                                have H := H1
                                clear H1
                                obtain rfl := Option.some.inj H
                                go_wp2_with (first | ((with_reducible refine gate_callee (f := 12) rfl ?_); refine goesL_ (some 52) rfl rfl Tryd.func12 (by kernel_rfl) rfl #[.string x5_1] rfl (by (try simp only [List.map_toArray, List.map_cons, List.map_nil]); first | done | rfl | (simp only [List.length_drop, List.length_take]; rfl)) ?_; (with_reducible refine (lex_Tokens.calls kj5 x5_1 t393 t394 _ A29.out ?side1).mono ?_); (case side1 => exact Tb.below HT.out (by repeat (first | (with_reducible first | exact HB.out | apply below_alloc | apply pw_below_drewN | apply below_drew1) | exact HB.out))); rintro e w41 ⟨v395, rfl, ho0, hb⟩; refine ⟨_, rfl, ?_⟩; have n0_ := Aside0.mk (Kd.R_lower ho0 (below_size (by repeat (first | (with_reducible first | exact HB.out | apply below_alloc | apply pw_below_drewN | apply below_drew1) | exact HB.out)))); have n1_ := Aside0.mk (below_step (by repeat (first | (with_reducible first | exact HB.out | apply below_alloc | apply pw_below_drewN | apply below_drew1) | exact HB.out)) hb); clear HB; have HO396 := n0_; have HB := n1_; clear n0_ n1_; (try clear hb); (try clear hb2); (try clear hk); (try clear hi); (try clear ho0)) | ((with_reducible refine gate_callee (f := 12) rfl ?_); refine goesL_ (some 58) rfl rfl Tryd.func12 (by kernel_rfl) rfl #[.string ((⟨#[55]⟩ : ByteArray) ++ x5_1)] rfl (by (try simp only [List.map_toArray, List.map_cons, List.map_nil]); first | done | rfl | (simp only [List.length_drop, List.length_take]; rfl)) ?_; (with_reducible refine (lex_Tokens.calls kj5 ((⟨#[55]⟩ : ByteArray) ++ x5_1) t397 t398 _ A31.out ?side1).mono ?_); (case side1 => exact Tb.below HT.out (by repeat (first | (with_reducible first | exact HB.out | apply below_alloc | apply pw_below_drewN | apply below_drew1) | exact HB.out))); rintro e w42 ⟨v399, rfl, ho0, hb⟩; refine ⟨_, rfl, ?_⟩; have n0_ := Aside0.mk (Kd.R_elder' (by (with_reducible repeat (first | apply Kd.R_alloc | apply Kd.R_drewN | apply Kd.R_drew)); exact HO396.out) (Kd.R_base ho0) hb); have n1_ := Aside0.mk (Kd.R_lower (Kd.R_new' ho0 (Kd.R_lt (by (with_reducible repeat (first | apply Kd.R_alloc | apply Kd.R_drewN | apply Kd.R_drew)); exact HO396.out))) (below_size (by repeat (first | (with_reducible first | exact HB.out | apply below_alloc | apply pw_below_drewN | apply below_drew1) | exact HB.out)))); have n2_ := Aside0.mk (below_step (by repeat (first | (with_reducible first | exact HB.out | apply below_alloc | apply pw_below_drewN | apply below_drew1) | exact HB.out)) hb); clear HO396; clear HB; have HO396 := n0_; have HO400 := n1_; have HB := n2_; clear n0_ n1_ n2_; (try clear hb); (try clear hb2); (try clear hk); (try clear hi); (try clear ho0); obtain ⟨Ao43, co43, eo43⟩ := Kd.R_slice HO396.out; subst eo43; have p401 : 0 ≤ (0 : Int) := (by omega); have q401 : 0 < (t393.length : Int) := of_decide_eq_true (by first | (with_reducible assumption) | assumption); obtain ⟨ad401, e401, hx401_0, hx401_1, hx401_2, hx401_3⟩ := at_T35 (Kd.R_reads' HO396.out).2.2 0 p401 q401; cases e401; have qi401 : (0 < t393.length) = True := eq_true (by omega); (try rw [show ((0 : Int)).toNat = 0 from rfl] at hx401_0); (try rw [show 0 * 4 = 0 from rfl] at hx401_0); (try rw [Addr.add_zero'] at hx401_0); (try rw [show ((0 : Int)).toNat = 0 from rfl] at hx401_1); (try rw [show 0 * 4 = 0 from rfl] at hx401_1); (try rw [Addr.add_zero'] at hx401_1); (try rw [show ((0 : Int)).toNat = 0 from rfl] at hx401_2); (try rw [show 0 * 4 = 0 from rfl] at hx401_2); (try rw [Addr.add_zero'] at hx401_2); (try rw [show ((0 : Int)).toNat = 0 from rfl] at hx401_3); (try rw [show 0 * 4 = 0 from rfl] at hx401_3); (try rw [Addr.add_zero'] at hx401_3); replace p401 := eq_true p401; replace q401 := eq_true q401; have p402 : 0 ≤ (0 : Int) := (by omega); have q402 : 0 < (t393.length : Int) := of_decide_eq_true (by first | (with_reducible assumption) | assumption); obtain ⟨ad402, e402, hx402_0, hx402_1, hx402_2, hx402_3⟩ := at_T35 (Kd.R_reads' HO396.out).2.2 0 p402 q402; obtain rfl : ad401 = ad402 := (by injection e402); have qi402 : (0 < t393.length) = True := eq_true (by omega); (try rw [show ((0 : Int)).toNat = 0 from rfl] at hx402_0); (try rw [show 0 * 4 = 0 from rfl] at hx402_0); (try rw [Addr.add_zero'] at hx402_0); (try rw [show ((0 : Int)).toNat = 0 from rfl] at hx402_1); (try rw [show 0 * 4 = 0 from rfl] at hx402_1); (try rw [Addr.add_zero'] at hx402_1); (try rw [show ((0 : Int)).toNat = 0 from rfl] at hx402_2); (try rw [show 0 * 4 = 0 from rfl] at hx402_2); (try rw [Addr.add_zero'] at hx402_2); (try rw [show ((0 : Int)).toNat = 0 from rfl] at hx402_3); (try rw [show 0 * 4 = 0 from rfl] at hx402_3); (try rw [Addr.add_zero'] at hx402_3); replace p402 := eq_true p402; replace q402 := eq_true q402) | (go_at_call 17; (with_reducible refine (lex_Ident.calls x5_1 true _ A37.out).mono ?_); rintro e w44 ⟨rfl, hb⟩; have n0_ := Aside0.mk (Kd.R_below (by (with_reducible repeat (first | apply Kd.R_alloc | apply Kd.R_drewN | apply Kd.R_drew)); exact HO396.out) hb); have n1_ := Aside0.mk (Kd.R_below (by (with_reducible repeat (first | apply Kd.R_alloc | apply Kd.R_drewN | apply Kd.R_drew)); exact HO400.out) hb); have n2_ := Aside0.mk (below_step (by repeat (first | (with_reducible first | exact HB.out | apply below_alloc | apply pw_below_drewN | apply below_drew1) | exact HB.out)) hb); clear HO396; clear HO400; clear HB; have HO396 := n0_; have HO400 := n1_; have HB := n2_; clear n0_ n1_ n2_; (try clear hb); (try clear hb2); (try clear hk); (try clear hi)) | (go_at_call 17; (with_reducible refine (lex_Ident.calls ((⟨#[55]⟩ : ByteArray) ++ x5_1) true _ A39.out).mono ?_); rintro e w45 ⟨rfl, hb⟩; have n0_ := Aside0.mk (Kd.R_below (by (with_reducible repeat (first | apply Kd.R_alloc | apply Kd.R_drewN | apply Kd.R_drew)); exact HO396.out) hb); have n1_ := Aside0.mk (Kd.R_below (by (with_reducible repeat (first | apply Kd.R_alloc | apply Kd.R_drewN | apply Kd.R_drew)); exact HO400.out) hb); have n2_ := Aside0.mk (below_step (by repeat (first | (with_reducible first | exact HB.out | apply below_alloc | apply pw_below_drewN | apply below_drew1) | exact HB.out)) hb); clear HO396; clear HO400; clear HB; have HO396 := n0_; have HO400 := n1_; have HB := n2_; clear n0_ n1_ n2_; (try clear hb); (try clear hb2); (try clear hk); (try clear hi)))
                                go_ret
                                exact ⟨by first | rfl | (simp [errW_none, errW_some] <;> rfl) | (simp [*, errW_none, errW_some] <;> rfl), by repeat (first | (with_reducible first | exact HB.out | apply below_alloc | apply pw_below_drewN | apply below_drew1) | exact HB.out)⟩
                              · replace c40 := Bool.eq_false_iff.mpr c40
                                subst c40
                                have H1 : (if t398 = 0 then (if (t397.length : Int) = 2 then (if 0 < (t397.length : Int) then (if ((rd_T35 t397 0).f2) ≥ 7 then (some true) else (some ((t397.length : Int) == 1))) else (none)) else (some ((t397.length : Int) == 1))) else (some false)) = some r := by rw [if_neg (show ¬ (false = true) by decide)] at H; exact H
                                clear H
                                have H := H1
                                clear H1
                                by_cases c46 : t398 = 0
                                · rw [if_pos c46] at H
                                  have c46b0 : (t398 == 0) = true := beq_iff_eq.mpr c46
                                  have c46b1 : (t398 != 0) = false := bne_eq_false_iff_eq.mpr c46
                                  clear c46
                                  by_cases c47 : (t397.length : Int) = 2
                                  · rw [if_pos c47] at H
                                    have c47b0 : ((t397.length : Int) == 2) = true := beq_iff_eq.mpr c47
                                    have c47b1 : ((t397.length : Int) != 2) = false := bne_eq_false_iff_eq.mpr c47
                                    clear c47
                                    by_cases c48 : 0 < (t397.length : Int)
                                    · rw [if_pos c48] at H
                                      have c48b0 : decide (0 < (t397.length : Int)) = true := decide_eq_true c48
                                      have c48b1 : decide (0 < t397.length) = true := decide_eq_true (by omega)
                                      clear c48
                                      by_cases c49 : ((rd_T35 t397 0).f2) ≥ 7
                                      · rw [if_pos c49] at H
                                        have c49b0 : decide (7 ≤ ((rd_T35 t397 0).f2)) = true := decide_eq_true c49
                                        clear c49
                                        obtain rfl := Option.some.inj H
                                        go_wp2_with (first | ((with_reducible refine gate_callee (f := 12) rfl ?_); refine goesL_ (some 52) rfl rfl Tryd.func12 (by kernel_rfl) rfl #[.string x5_1] rfl (by (try simp only [List.map_toArray, List.map_cons, List.map_nil]); first | done | rfl | (simp only [List.length_drop, List.length_take]; rfl)) ?_; (with_reducible refine (lex_Tokens.calls kj5 x5_1 t393 t394 _ A29.out ?side1).mono ?_); (case side1 => exact Tb.below HT.out (by repeat (first | (with_reducible first | exact HB.out | apply below_alloc | apply pw_below_drewN | apply below_drew1) | exact HB.out))); rintro e w50 ⟨v395, rfl, ho0, hb⟩; refine ⟨_, rfl, ?_⟩; have n0_ := Aside0.mk (Kd.R_lower ho0 (below_size (by repeat (first | (with_reducible first | exact HB.out | apply below_alloc | apply pw_below_drewN | apply below_drew1) | exact HB.out)))); have n1_ := Aside0.mk (below_step (by repeat (first | (with_reducible first | exact HB.out | apply below_alloc | apply pw_below_drewN | apply below_drew1) | exact HB.out)) hb); clear HB; have HO396 := n0_; have HB := n1_; clear n0_ n1_; (try clear hb); (try clear hb2); (try clear hk); (try clear hi); (try clear ho0)) | ((with_reducible refine gate_callee (f := 12) rfl ?_); refine goesL_ (some 58) rfl rfl Tryd.func12 (by kernel_rfl) rfl #[.string ((⟨#[55]⟩ : ByteArray) ++ x5_1)] rfl (by (try simp only [List.map_toArray, List.map_cons, List.map_nil]); first | done | rfl | (simp only [List.length_drop, List.length_take]; rfl)) ?_; (with_reducible refine (lex_Tokens.calls kj5 ((⟨#[55]⟩ : ByteArray) ++ x5_1) t397 t398 _ A31.out ?side1).mono ?_); (case side1 => exact Tb.below HT.out (by repeat (first | (with_reducible first | exact HB.out | apply below_alloc | apply pw_below_drewN | apply below_drew1) | exact HB.out))); rintro e w51 ⟨v399, rfl, ho0, hb⟩; refine ⟨_, rfl, ?_⟩; have n0_ := Aside0.mk (Kd.R_elder' (by (with_reducible repeat (first | apply Kd.R_alloc | apply Kd.R_drewN | apply Kd.R_drew)); exact HO396.out) (Kd.R_base ho0) hb); have n1_ := Aside0.mk (Kd.R_lower (Kd.R_new' ho0 (Kd.R_lt (by (with_reducible repeat (first | apply Kd.R_alloc | apply Kd.R_drewN | apply Kd.R_drew)); exact HO396.out))) (below_size (by repeat (first | (with_reducible first | exact HB.out | apply below_alloc | apply pw_below_drewN | apply below_drew1) | exact HB.out)))); have n2_ := Aside0.mk (below_step (by repeat (first | (with_reducible first | exact HB.out | apply below_alloc | apply pw_below_drewN | apply below_drew1) | exact HB.out)) hb); clear HO396; clear HB; have HO396 := n0_; have HO400 := n1_; have HB := n2_; clear n0_ n1_ n2_; (try clear hb); (try clear hb2); (try clear hk); (try clear hi); (try clear ho0); obtain ⟨Ao52, co52, eo52⟩ := Kd.R_slice HO396.out; subst eo52; have p401 : 0 ≤ (0 : Int) := (by omega); have q401 : 0 < (t393.length : Int) := of_decide_eq_true (by first | (with_reducible assumption) | assumption); obtain ⟨ad401, e401, hx401_0, hx401_1, hx401_2, hx401_3⟩ := at_T35 (Kd.R_reads' HO396.out).2.2 0 p401 q401; cases e401; have qi401 : (0 < t393.length) = True := eq_true (by omega); (try rw [show ((0 : Int)).toNat = 0 from rfl] at hx401_0); (try rw [show 0 * 4 = 0 from rfl] at hx401_0); (try rw [Addr.add_zero'] at hx401_0); (try rw [show ((0 : Int)).toNat = 0 from rfl] at hx401_1); (try rw [show 0 * 4 = 0 from rfl] at hx401_1); (try rw [Addr.add_zero'] at hx401_1); (try rw [show ((0 : Int)).toNat = 0 from rfl] at hx401_2); (try rw [show 0 * 4 = 0 from rfl] at hx401_2); (try rw [Addr.add_zero'] at hx401_2); (try rw [show ((0 : Int)).toNat = 0 from rfl] at hx401_3); (try rw [show 0 * 4 = 0 from rfl] at hx401_3); (try rw [Addr.add_zero'] at hx401_3); replace p401 := eq_true p401; replace q401 := eq_true q401; have p402 : 0 ≤ (0 : Int) := (by omega); have q402 : 0 < (t393.length : Int) := of_decide_eq_true (by first | (with_reducible assumption) | assumption); obtain ⟨ad402, e402, hx402_0, hx402_1, hx402_2, hx402_3⟩ := at_T35 (Kd.R_reads' HO396.out).2.2 0 p402 q402; obtain rfl : ad401 = ad402 := (by injection e402); have qi402 : (0 < t393.length) = True := eq_true (by omega); (try rw [show ((0 : Int)).toNat = 0 from rfl] at hx402_0); (try rw [show 0 * 4 = 0 from rfl] at hx402_0); (try rw [Addr.add_zero'] at hx402_0); (try rw [show ((0 : Int)).toNat = 0 from rfl] at hx402_1); (try rw [show 0 * 4 = 0 from rfl] at hx402_1); (try rw [Addr.add_zero'] at hx402_1); (try rw [show ((0 : Int)).toNat = 0 from rfl] at hx402_2); (try rw [show 0 * 4 = 0 from rfl] at hx402_2); (try rw [Addr.add_zero'] at hx402_2); (try rw [show ((0 : Int)).toNat = 0 from rfl] at hx402_3); (try rw [show 0 * 4 = 0 from rfl] at hx402_3); (try rw [Addr.add_zero'] at hx402_3); replace p402 := eq_true p402; replace q402 := eq_true q402) | (go_at_call 17; (with_reducible refine (lex_Ident.calls x5_1 true _ A37.out).mono ?_); rintro e w53 ⟨rfl, hb⟩; have n0_ := Aside0.mk (Kd.R_below (by (with_reducible repeat (first | apply Kd.R_alloc | apply Kd.R_drewN | apply Kd.R_drew)); exact HO396.out) hb); have n1_ := Aside0.mk (Kd.R_below (by (with_reducible repeat (first | apply Kd.R_alloc | apply Kd.R_drewN | apply Kd.R_drew)); exact HO400.out) hb); have n2_ := Aside0.mk (below_step (by repeat (first | (with_reducible first | exact HB.out | apply below_alloc | apply pw_below_drewN | apply below_drew1) | exact HB.out)) hb); clear HO396; clear HO400; clear HB; have HO396 := n0_; have HO400 := n1_; have HB := n2_; clear n0_ n1_ n2_; (try clear hb); (try clear hb2); (try clear hk); (try clear hi)) | (go_at_call 17; (with_reducible refine (lex_Ident.calls ((⟨#[55]⟩ : ByteArray) ++ x5_1) false _ A39.out).mono ?_); rintro e w54 ⟨rfl, hb⟩; have n0_ := Aside0.mk (Kd.R_below (by (with_reducible repeat (first | apply Kd.R_alloc | apply Kd.R_drewN | apply Kd.R_drew)); exact HO396.out) hb); have n1_ := Aside0.mk (Kd.R_below (by (with_reducible repeat (first | apply Kd.R_alloc | apply Kd.R_drewN | apply Kd.R_drew)); exact HO400.out) hb); have n2_ := Aside0.mk (below_step (by repeat (first | (with_reducible first | exact HB.out | apply below_alloc | apply pw_below_drewN | apply below_drew1) | exact HB.out)) hb); clear HO396; clear HO400; clear HB; have HO396 := n0_; have HO400 := n1_; have HB := n2_; clear n0_ n1_ n2_; (try clear hb); (try clear hb2); (try clear hk); (try clear hi); obtain ⟨Ao55, co55, eo55⟩ := Kd.R_slice HO400.out; subst eo55; have p405 : 0 ≤ (0 : Int) := (by omega); have q405 : 0 < (t397.length : Int) := of_decide_eq_true (by first | (with_reducible assumption) | assumption); obtain ⟨ad405, e405, hx405_0, hx405_1, hx405_2, hx405_3⟩ := at_T35 (Kd.R_reads' HO400.out).2.2 0 p405 q405; cases e405; have qi405 : (0 < t397.length) = True := eq_true (by omega); (try rw [show ((0 : Int)).toNat = 0 from rfl] at hx405_0); (try rw [show 0 * 4 = 0 from rfl] at hx405_0); (try rw [Addr.add_zero'] at hx405_0); (try rw [show ((0 : Int)).toNat = 0 from rfl] at hx405_1); (try rw [show 0 * 4 = 0 from rfl] at hx405_1); (try rw [Addr.add_zero'] at hx405_1); (try rw [show ((0 : Int)).toNat = 0 from rfl] at hx405_2); (try rw [show 0 * 4 = 0 from rfl] at hx405_2); (try rw [Addr.add_zero'] at hx405_2); (try rw [show ((0 : Int)).toNat = 0 from rfl] at hx405_3); (try rw [show 0 * 4 = 0 from rfl] at hx405_3); (try rw [Addr.add_zero'] at hx405_3); replace p405 := eq_true p405; replace q405 := eq_true q405))
                                        go_ret
                                        exact ⟨by first | rfl | (simp [errW_none, errW_some] <;> rfl) | (simp [*, errW_none, errW_some] <;> rfl), by repeat (first | (with_reducible first | exact HB.out | apply below_alloc | apply pw_below_drewN | apply below_drew1) | exact HB.out)⟩
                                      · rw [if_neg c49] at H
                                        have c49b0 : decide (7 ≤ ((rd_T35 t397 0).f2)) = false := decide_eq_false c49
                                        clear c49
                                        obtain rfl := Option.some.inj H
                                        go_wp2_with (first | ((with_reducible refine gate_callee (f := 12) rfl ?_); refine goesL_ (some 52) rfl rfl Tryd.func12 (by kernel_rfl) rfl #[.string x5_1] rfl (by (try simp only [List.map_toArray, List.map_cons, List.map_nil]); first | done | rfl | (simp only [List.length_drop, List.length_take]; rfl)) ?_; (with_reducible refine (lex_Tokens.calls kj5 x5_1 t393 t394 _ A29.out ?side1).mono ?_); (case side1 => exact Tb.below HT.out (by repeat (first | (with_reducible first | exact HB.out | apply below_alloc | apply pw_below_drewN | apply below_drew1) | exact HB.out))); rintro e w56 ⟨v395, rfl, ho0, hb⟩; refine ⟨_, rfl, ?_⟩; have n0_ := Aside0.mk (Kd.R_lower ho0 (below_size (by repeat (first | (with_reducible first | exact HB.out | apply below_alloc | apply pw_below_drewN | apply below_drew1) | exact HB.out)))); have n1_ := Aside0.mk (below_step (by repeat (first | (with_reducible first | exact HB.out | apply below_alloc | apply pw_below_drewN | apply below_drew1) | exact HB.out)) hb); clear HB; have HO396 := n0_; have HB := n1_; clear n0_ n1_; (try clear hb); (try clear hb2); (try clear hk); (try clear hi); (try clear ho0)) | ((with_reducible refine gate_callee (f := 12) rfl ?_); refine goesL_ (some 58) rfl rfl Tryd.func12 (by kernel_rfl) rfl #[.string ((⟨#[55]⟩ : ByteArray) ++ x5_1)] rfl (by (try simp only [List.map_toArray, List.map_cons, List.map_nil]); first | done | rfl | (simp only [List.length_drop, List.length_take]; rfl)) ?_; (with_reducible refine (lex_Tokens.calls kj5 ((⟨#[55]⟩ : ByteArray) ++ x5_1) t397 t398 _ A31.out ?side1).mono ?_); (case side1 => exact Tb.below HT.out (by repeat (first | (with_reducible first | exact HB.out | apply below_alloc | apply pw_below_drewN | apply below_drew1) | exact HB.out))); rintro e w57 ⟨v399, rfl, ho0, hb⟩; refine ⟨_, rfl, ?_⟩; have n0_ := Aside0.mk (Kd.R_elder' (by (with_reducible repeat (first | apply Kd.R_alloc | apply Kd.R_drewN | apply Kd.R_drew)); exact HO396.out) (Kd.R_base ho0) hb); have n1_ := Aside0.mk (Kd.R_lower (Kd.R_new' ho0 (Kd.R_lt (by (with_reducible repeat (first | apply Kd.R_alloc | apply Kd.R_drewN | apply Kd.R_drew)); exact HO396.out))) (below_size (by repeat (first | (with_reducible first | exact HB.out | apply below_alloc | apply pw_below_drewN | apply below_drew1) | exact HB.out)))); have n2_ := Aside0.mk (below_step (by repeat (first | (with_reducible first | exact HB.out | apply below_alloc | apply pw_below_drewN | apply below_drew1) | exact HB.out)) hb); clear HO396; clear HB; have HO396 := n0_; have HO400 := n1_; have HB := n2_; clear n0_ n1_ n2_; (try clear hb); (try clear hb2); (try clear hk); (try clear hi); (try clear ho0); obtain ⟨Ao58, co58, eo58⟩ := Kd.R_slice HO396.out; subst eo58; have p401 : 0 ≤ (0 : Int) := (by omega); have q401 : 0 < (t393.length : Int) := of_decide_eq_true (by first | (with_reducible assumption) | assumption); obtain ⟨ad401, e401, hx401_0, hx401_1, hx401_2, hx401_3⟩ := at_T35 (Kd.R_reads' HO396.out).2.2 0 p401 q401; cases e401; have qi401 : (0 < t393.length) = True := eq_true (by omega); (try rw [show ((0 : Int)).toNat = 0 from rfl] at hx401_0); (try rw [show 0 * 4 = 0 from rfl] at hx401_0); (try rw [Addr.add_zero'] at hx401_0); (try rw [show ((0 : Int)).toNat = 0 from rfl] at hx401_1); (try rw [show 0 * 4 = 0 from rfl] at hx401_1); (try rw [Addr.add_zero'] at hx401_1); (try rw [show ((0 : Int)).toNat = 0 from rfl] at hx401_2); (try rw [show 0 * 4 = 0 from rfl] at hx401_2); (try rw [Addr.add_zero'] at hx401_2); (try rw [show ((0 : Int)).toNat = 0 from rfl] at hx401_3); (try rw [show 0 * 4 = 0 from rfl] at hx401_3); (try rw [Addr.add_zero'] at hx401_3); replace p401 := eq_true p401; replace q401 := eq_true q401; have p402 : 0 ≤ (0 : Int) := (by omega); have q402 : 0 < (t393.length : Int) := of_decide_eq_true (by first | (with_reducible assumption) | assumption); obtain ⟨ad402, e402, hx402_0, hx402_1, hx402_2, hx402_3⟩ := at_T35 (Kd.R_reads' HO396.out).2.2 0 p402 q402; obtain rfl : ad401 = ad402 := (by injection e402); have qi402 : (0 < t393.length) = True := eq_true (by omega); (try rw [show ((0 : Int)).toNat = 0 from rfl] at hx402_0); (try rw [show 0 * 4 = 0 from rfl] at hx402_0); (try rw [Addr.add_zero'] at hx402_0); (try rw [show ((0 : Int)).toNat = 0 from rfl] at hx402_1); (try rw [show 0 * 4 = 0 from rfl] at hx402_1); (try rw [Addr.add_zero'] at hx402_1); (try rw [show ((0 : Int)).toNat = 0 from rfl] at hx402_2); (try rw [show 0 * 4 = 0 from rfl] at hx402_2); (try rw [Addr.add_zero'] at hx402_2); (try rw [show ((0 : Int)).toNat = 0 from rfl] at hx402_3); (try rw [show 0 * 4 = 0 from rfl] at hx402_3); (try rw [Addr.add_zero'] at hx402_3); replace p402 := eq_true p402; replace q402 := eq_true q402) | (go_at_call 17; (with_reducible refine (lex_Ident.calls x5_1 true _ A37.out).mono ?_); rintro e w59 ⟨rfl, hb⟩; have n0_ := Aside0.mk (Kd.R_below (by (with_reducible repeat (first | apply Kd.R_alloc | apply Kd.R_drewN | apply Kd.R_drew)); exact HO396.out) hb); have n1_ := Aside0.mk (Kd.R_below (by (with_reducible repeat (first | apply Kd.R_alloc | apply Kd.R_drewN | apply Kd.R_drew)); exact HO400.out) hb); have n2_ := Aside0.mk (below_step (by repeat (first | (with_reducible first | exact HB.out | apply below_alloc | apply pw_below_drewN | apply below_drew1) | exact HB.out)) hb); clear HO396; clear HO400; clear HB; have HO396 := n0_; have HO400 := n1_; have HB := n2_; clear n0_ n1_ n2_; (try clear hb); (try clear hb2); (try clear hk); (try clear hi)) | (go_at_call 17; (with_reducible refine (lex_Ident.calls ((⟨#[55]⟩ : ByteArray) ++ x5_1) false _ A39.out).mono ?_); rintro e w60 ⟨rfl, hb⟩; have n0_ := Aside0.mk (Kd.R_below (by (with_reducible repeat (first | apply Kd.R_alloc | apply Kd.R_drewN | apply Kd.R_drew)); exact HO396.out) hb); have n1_ := Aside0.mk (Kd.R_below (by (with_reducible repeat (first | apply Kd.R_alloc | apply Kd.R_drewN | apply Kd.R_drew)); exact HO400.out) hb); have n2_ := Aside0.mk (below_step (by repeat (first | (with_reducible first | exact HB.out | apply below_alloc | apply pw_below_drewN | apply below_drew1) | exact HB.out)) hb); clear HO396; clear HO400; clear HB; have HO396 := n0_; have HO400 := n1_; have HB := n2_; clear n0_ n1_ n2_; (try clear hb); (try clear hb2); (try clear hk); (try clear hi); obtain ⟨Ao61, co61, eo61⟩ := Kd.R_slice HO400.out; subst eo61; have p405 : 0 ≤ (0 : Int) := (by omega); have q405 : 0 < (t397.length : Int) := of_decide_eq_true (by first | (with_reducible assumption) | assumption); obtain ⟨ad405, e405, hx405_0, hx405_1, hx405_2, hx405_3⟩ := at_T35 (Kd.R_reads' HO400.out).2.2 0 p405 q405; cases e405; have qi405 : (0 < t397.length) = True := eq_true (by omega); (try rw [show ((0 : Int)).toNat = 0 from rfl] at hx405_0); (try rw [show 0 * 4 = 0 from rfl] at hx405_0); (try rw [Addr.add_zero'] at hx405_0); (try rw [show ((0 : Int)).toNat = 0 from rfl] at hx405_1); (try rw [show 0 * 4 = 0 from rfl] at hx405_1); (try rw [Addr.add_zero'] at hx405_1); (try rw [show ((0 : Int)).toNat = 0 from rfl] at hx405_2); (try rw [show 0 * 4 = 0 from rfl] at hx405_2); (try rw [Addr.add_zero'] at hx405_2); (try rw [show ((0 : Int)).toNat = 0 from rfl] at hx405_3); (try rw [show 0 * 4 = 0 from rfl] at hx405_3); (try rw [Addr.add_zero'] at hx405_3); replace p405 := eq_true p405; replace q405 := eq_true q405))
                                        go_ret
                                        exact ⟨by first | rfl | (simp [errW_none, errW_some] <;> rfl) | (simp [*, errW_none, errW_some] <;> rfl), by repeat (first | (with_reducible first | exact HB.out | apply below_alloc | apply pw_below_drewN | apply below_drew1) | exact HB.out)⟩
                                    · rw [if_neg c48] at H
                                      exact absurd H (by simp)
                                  · rw [if_neg c47] at H
                                    have c47b0 : ((t397.length : Int) == 2) = false := beq_eq_false_iff_ne.mpr c47
                                    have c47b1 : ((t397.length : Int) != 2) = true := bne_iff_ne.mpr c47
                                    obtain rfl := Option.some.inj H
                                    go_wp2_with (first | ((with_reducible refine gate_callee (f := 12) rfl ?_); refine goesL_ (some 52) rfl rfl Tryd.func12 (by kernel_rfl) rfl #[.string x5_1] rfl (by (try simp only [List.map_toArray, List.map_cons, List.map_nil]); first | done | rfl | (simp only [List.length_drop, List.length_take]; rfl)) ?_; (with_reducible refine (lex_Tokens.calls kj5 x5_1 t393 t394 _ A29.out ?side1).mono ?_); (case side1 => exact Tb.below HT.out (by repeat (first | (with_reducible first | exact HB.out | apply below_alloc | apply pw_below_drewN | apply below_drew1) | exact HB.out))); rintro e w62 ⟨v395, rfl, ho0, hb⟩; refine ⟨_, rfl, ?_⟩; have n0_ := Aside0.mk (Kd.R_lower ho0 (below_size (by repeat (first | (with_reducible first | exact HB.out | apply below_alloc | apply pw_below_drewN | apply below_drew1) | exact HB.out)))); have n1_ := Aside0.mk (below_step (by repeat (first | (with_reducible first | exact HB.out | apply below_alloc | apply pw_below_drewN | apply below_drew1) | exact HB.out)) hb); clear HB; have HO396 := n0_; have HB := n1_; clear n0_ n1_; (try clear hb); (try clear hb2); (try clear hk); (try clear hi); (try clear ho0)) | ((with_reducible refine gate_callee (f := 12) rfl ?_); refine goesL_ (some 58) rfl rfl Tryd.func12 (by kernel_rfl) rfl #[.string ((⟨#[55]⟩ : ByteArray) ++ x5_1)] rfl (by (try simp only [List.map_toArray, List.map_cons, List.map_nil]); first | done | rfl | (simp only [List.length_drop, List.length_take]; rfl)) ?_; (with_reducible refine (lex_Tokens.calls kj5 ((⟨#[55]⟩ : ByteArray) ++ x5_1) t397 t398 _ A31.out ?side1).mono ?_); (case side1 => exact Tb.below HT.out (by repeat (first | (with_reducible first | exact HB.out | apply below_alloc | apply pw_below_drewN | apply below_drew1) | exact HB.out))); rintro e w63 ⟨v399, rfl, ho0, hb⟩; refine ⟨_, rfl, ?_⟩; have n0_ := Aside0.mk (Kd.R_elder' (by (with_reducible repeat (first | apply Kd.R_alloc | apply Kd.R_drewN | apply Kd.R_drew)); exact HO396.out) (Kd.R_base ho0) hb); have n1_ := Aside0.mk (Kd.R_lower (Kd.R_new' ho0 (Kd.R_lt (by (with_reducible repeat (first | apply Kd.R_alloc | apply Kd.R_drewN | apply Kd.R_drew)); exact HO396.out))) (below_size (by repeat (first | (with_reducible first | exact HB.out | apply below_alloc | apply pw_below_drewN | apply below_drew1) | exact HB.out)))); have n2_ := Aside0.mk (below_step (by repeat (first | (with_reducible first | exact HB.out | apply below_alloc | apply pw_below_drewN | apply below_drew1) | exact HB.out)) hb); clear HO396; clear HB; have HO396 := n0_; have HO400 := n1_; have HB := n2_; clear n0_ n1_ n2_; (try clear hb); (try clear hb2); (try clear hk); (try clear hi); (try clear ho0); obtain ⟨Ao64, co64, eo64⟩ := Kd.R_slice HO396.out; subst eo64; have p401 : 0 ≤ (0 : Int) := (by omega); have q401 : 0 < (t393.length : Int) := of_decide_eq_true (by first | (with_reducible assumption) | assumption); obtain ⟨ad401, e401, hx401_0, hx401_1, hx401_2, hx401_3⟩ := at_T35 (Kd.R_reads' HO396.out).2.2 0 p401 q401; cases e401; have qi401 : (0 < t393.length) = True := eq_true (by omega); (try rw [show ((0 : Int)).toNat = 0 from rfl] at hx401_0); (try rw [show 0 * 4 = 0 from rfl] at hx401_0); (try rw [Addr.add_zero'] at hx401_0); (try rw [show ((0 : Int)).toNat = 0 from rfl] at hx401_1); (try rw [show 0 * 4 = 0 from rfl] at hx401_1); (try rw [Addr.add_zero'] at hx401_1); (try rw [show ((0 : Int)).toNat = 0 from rfl] at hx401_2); (try rw [show 0 * 4 = 0 from rfl] at hx401_2); (try rw [Addr.add_zero'] at hx401_2); (try rw [show ((0 : Int)).toNat = 0 from rfl] at hx401_3); (try rw [show 0 * 4 = 0 from rfl] at hx401_3); (try rw [Addr.add_zero'] at hx401_3); replace p401 := eq_true p401; replace q401 := eq_true q401; have p402 : 0 ≤ (0 : Int) := (by omega); have q402 : 0 < (t393.length : Int) := of_decide_eq_true (by first | (with_reducible assumption) | assumption); obtain ⟨ad402, e402, hx402_0, hx402_1, hx402_2, hx402_3⟩ := at_T35 (Kd.R_reads' HO396.out).2.2 0 p402 q402; obtain rfl : ad401 = ad402 := (by injection e402); have qi402 : (0 < t393.length) = True := eq_true (by omega); (try rw [show ((0 : Int)).toNat = 0 from rfl] at hx402_0); (try rw [show 0 * 4 = 0 from rfl] at hx402_0); (try rw [Addr.add_zero'] at hx402_0); (try rw [show ((0 : Int)).toNat = 0 from rfl] at hx402_1); (try rw [show 0 * 4 = 0 from rfl] at hx402_1); (try rw [Addr.add_zero'] at hx402_1); (try rw [show ((0 : Int)).toNat = 0 from rfl] at hx402_2); (try rw [show 0 * 4 = 0 from rfl] at hx402_2); (try rw [Addr.add_zero'] at hx402_2); (try rw [show ((0 : Int)).toNat = 0 from rfl] at hx402_3); (try rw [show 0 * 4 = 0 from rfl] at hx402_3); (try rw [Addr.add_zero'] at hx402_3); replace p402 := eq_true p402; replace q402 := eq_true q402) | (go_at_call 17; (with_reducible refine (lex_Ident.calls x5_1 true _ A37.out).mono ?_); rintro e w65 ⟨rfl, hb⟩; have n0_ := Aside0.mk (Kd.R_below (by (with_reducible repeat (first | apply Kd.R_alloc | apply Kd.R_drewN | apply Kd.R_drew)); exact HO396.out) hb); have n1_ := Aside0.mk (Kd.R_below (by (with_reducible repeat (first | apply Kd.R_alloc | apply Kd.R_drewN | apply Kd.R_drew)); exact HO400.out) hb); have n2_ := Aside0.mk (below_step (by repeat (first | (with_reducible first | exact HB.out | apply below_alloc | apply pw_below_drewN | apply below_drew1) | exact HB.out)) hb); clear HO396; clear HO400; clear HB; have HO396 := n0_; have HO400 := n1_; have HB := n2_; clear n0_ n1_ n2_; (try clear hb); (try clear hb2); (try clear hk); (try clear hi)) | (go_at_call 17; (with_reducible refine (lex_Ident.calls ((⟨#[55]⟩ : ByteArray) ++ x5_1) false _ A39.out).mono ?_); rintro e w66 ⟨rfl, hb⟩; have n0_ := Aside0.mk (Kd.R_below (by (with_reducible repeat (first | apply Kd.R_alloc | apply Kd.R_drewN | apply Kd.R_drew)); exact HO396.out) hb); have n1_ := Aside0.mk (Kd.R_below (by (with_reducible repeat (first | apply Kd.R_alloc | apply Kd.R_drewN | apply Kd.R_drew)); exact HO400.out) hb); have n2_ := Aside0.mk (below_step (by repeat (first | (with_reducible first | exact HB.out | apply below_alloc | apply pw_below_drewN | apply below_drew1) | exact HB.out)) hb); clear HO396; clear HO400; clear HB; have HO396 := n0_; have HO400 := n1_; have HB := n2_; clear n0_ n1_ n2_; (try clear hb); (try clear hb2); (try clear hk); (try clear hi); obtain ⟨Ao67, co67, eo67⟩ := Kd.R_slice HO400.out; subst eo67))
                                    go_ret
                                    exact ⟨by first | rfl | (simp [errW_none, errW_some] <;> rfl) | (simp [*, errW_none, errW_some] <;> rfl), by repeat (first | (with_reducible first | exact HB.out | apply below_alloc | apply pw_below_drewN | apply below_drew1) | exact HB.out)⟩
                                · rw [if_neg c46] at H
                                  have c46b0 : (t398 == 0) = false := beq_eq_false_iff_ne.mpr c46
                                  have c46b1 : (t398 != 0) = true := bne_iff_ne.mpr c46
                                  obtain rfl := Option.some.inj H
                                  go_wp2_with (first | ((with_reducible refine gate_callee (f := 12) rfl ?_); refine goesL_ (some 52) rfl rfl Tryd.func12 (by kernel_rfl) rfl #[.string x5_1] rfl (by (try simp only [List.map_toArray, List.map_cons, List.map_nil]); first | done | rfl | (simp only [List.length_drop, List.length_take]; rfl)) ?_; (with_reducible refine (lex_Tokens.calls kj5 x5_1 t393 t394 _ A29.out ?side1).mono ?_); (case side1 => exact Tb.below HT.out (by repeat (first | (with_reducible first | exact HB.out | apply below_alloc | apply pw_below_drewN | apply below_drew1) | exact HB.out))); rintro e w68 ⟨v395, rfl, ho0, hb⟩; refine ⟨_, rfl, ?_⟩; have n0_ := Aside0.mk (Kd.R_lower ho0 (below_size (by repeat (first | (with_reducible first | exact HB.out | apply below_alloc | apply pw_below_drewN | apply below_drew1) | exact HB.out)))); have n1_ := Aside0.mk (below_step (by repeat (first | (with_reducible first | exact HB.out | apply below_alloc | apply pw_below_drewN | apply below_drew1) | exact HB.out)) hb); clear HB; have HO396 := n0_; have HB := n1_; clear n0_ n1_; (try clear hb); (try clear hb2); (try clear hk); (try clear hi); (try clear ho0)) | ((with_reducible refine gate_callee (f := 12) rfl ?_); refine goesL_ (some 58) rfl rfl Tryd.func12 (by kernel_rfl) rfl #[.string ((⟨#[55]⟩ : ByteArray) ++ x5_1)] rfl (by (try simp only [List.map_toArray, List.map_cons, List.map_nil]); first | done | rfl | (simp only [List.length_drop, List.length_take]; rfl)) ?_; (with_reducible refine (lex_Tokens.calls kj5 ((⟨#[55]⟩ : ByteArray) ++ x5_1) t397 t398 _ A31.out ?side1).mono ?_); (case side1 => exact Tb.below HT.out (by repeat (first | (with_reducible first | exact HB.out | apply below_alloc | apply pw_below_drewN | apply below_drew1) | exact HB.out))); rintro e w69 ⟨v399, rfl, ho0, hb⟩; refine ⟨_, rfl, ?_⟩; have n0_ := Aside0.mk (Kd.R_elder' (by (with_reducible repeat (first | apply Kd.R_alloc | apply Kd.R_drewN | apply Kd.R_drew)); exact HO396.out) (Kd.R_base ho0) hb); have n1_ := Aside0.mk (Kd.R_lower (Kd.R_new' ho0 (Kd.R_lt (by (with_reducible repeat (first | apply Kd.R_alloc | apply Kd.R_drewN | apply Kd.R_drew)); exact HO396.out))) (below_size (by repeat (first | (with_reducible first | exact HB.out | apply below_alloc | apply pw_below_drewN | apply below_drew1) | exact HB.out)))); have n2_ := Aside0.mk (below_step (by repeat (first | (with_reducible first | exact HB.out | apply below_alloc | apply pw_below_drewN | apply below_drew1) | exact HB.out)) hb); clear HO396; clear HB; have HO396 := n0_; have HO400 := n1_; have HB := n2_; clear n0_ n1_ n2_; (try clear hb); (try clear hb2); (try clear hk); (try clear hi); (try clear ho0); obtain ⟨Ao70, co70, eo70⟩ := Kd.R_slice HO396.out; subst eo70; have p401 : 0 ≤ (0 : Int) := (by omega); have q401 : 0 < (t393.length : Int) := of_decide_eq_true (by first | (with_reducible assumption) | assumption); obtain ⟨ad401, e401, hx401_0, hx401_1, hx401_2, hx401_3⟩ := at_T35 (Kd.R_reads' HO396.out).2.2 0 p401 q401; cases e401; have qi401 : (0 < t393.length) = True := eq_true (by omega); (try rw [show ((0 : Int)).toNat = 0 from rfl] at hx401_0); (try rw [show 0 * 4 = 0 from rfl] at hx401_0); (try rw [Addr.add_zero'] at hx401_0); (try rw [show ((0 : Int)).toNat = 0 from rfl] at hx401_1); (try rw [show 0 * 4 = 0 from rfl] at hx401_1); (try rw [Addr.add_zero'] at hx401_1); (try rw [show ((0 : Int)).toNat = 0 from rfl] at hx401_2); (try rw [show 0 * 4 = 0 from rfl] at hx401_2); (try rw [Addr.add_zero'] at hx401_2); (try rw [show ((0 : Int)).toNat = 0 from rfl] at hx401_3); (try rw [show 0 * 4 = 0 from rfl] at hx401_3); (try rw [Addr.add_zero'] at hx401_3); replace p401 := eq_true p401; replace q401 := eq_true q401; have p402 : 0 ≤ (0 : Int) := (by omega); have q402 : 0 < (t393.length : Int) := of_decide_eq_true (by first | (with_reducible assumption) | assumption); obtain ⟨ad402, e402, hx402_0, hx402_1, hx402_2, hx402_3⟩ := at_T35 (Kd.R_reads' HO396.out).2.2 0 p402 q402; obtain rfl : ad401 = ad402 := (by injection e402); have qi402 : (0 < t393.length) = True := eq_true (by omega); (try rw [show ((0 : Int)).toNat = 0 from rfl] at hx402_0); (try rw [show 0 * 4 = 0 from rfl] at hx402_0); (try rw [Addr.add_zero'] at hx402_0); (try rw [show ((0 : Int)).toNat = 0 from rfl] at hx402_1); (try rw [show 0 * 4 = 0 from rfl] at hx402_1); (try rw [Addr.add_zero'] at hx402_1); (try rw [show ((0 : Int)).toNat = 0 from rfl] at hx402_2); (try rw [show 0 * 4 = 0 from rfl] at hx402_2); (try rw [Addr.add_zero'] at hx402_2); (try rw [show ((0 : Int)).toNat = 0 from rfl] at hx402_3); (try rw [show 0 * 4 = 0 from rfl] at hx402_3); (try rw [Addr.add_zero'] at hx402_3); replace p402 := eq_true p402; replace q402 := eq_true q402) | (go_at_call 17; (with_reducible refine (lex_Ident.calls x5_1 true _ A37.out).mono ?_); rintro e w71 ⟨rfl, hb⟩; have n0_ := Aside0.mk (Kd.R_below (by (with_reducible repeat (first | apply Kd.R_alloc | apply Kd.R_drewN | apply Kd.R_drew)); exact HO396.out) hb); have n1_ := Aside0.mk (Kd.R_below (by (with_reducible repeat (first | apply Kd.R_alloc | apply Kd.R_drewN | apply Kd.R_drew)); exact HO400.out) hb); have n2_ := Aside0.mk (below_step (by repeat (first | (with_reducible first | exact HB.out | apply below_alloc | apply pw_below_drewN | apply below_drew1) | exact HB.out)) hb); clear HO396; clear HO400; clear HB; have HO396 := n0_; have HO400 := n1_; have HB := n2_; clear n0_ n1_ n2_; (try clear hb); (try clear hb2); (try clear hk); (try clear hi)) | (go_at_call 17; (with_reducible refine (lex_Ident.calls ((⟨#[55]⟩ : ByteArray) ++ x5_1) false _ A39.out).mono ?_); rintro e w72 ⟨rfl, hb⟩; have n0_ := Aside0.mk (Kd.R_below (by (with_reducible repeat (first | apply Kd.R_alloc | apply Kd.R_drewN | apply Kd.R_drew)); exact HO396.out) hb); have n1_ := Aside0.mk (Kd.R_below (by (with_reducible repeat (first | apply Kd.R_alloc | apply Kd.R_drewN | apply Kd.R_drew)); exact HO400.out) hb); have n2_ := Aside0.mk (below_step (by repeat (first | (with_reducible first | exact HB.out | apply below_alloc | apply pw_below_drewN | apply below_drew1) | exact HB.out)) hb); clear HO396; clear HO400; clear HB; have HO396 := n0_; have HO400 := n1_; have HB := n2_; clear n0_ n1_ n2_; (try clear hb); (try clear hb2); (try clear hk); (try clear hi)))
                                  go_ret
                                  exact ⟨by first | rfl | (simp [errW_none, errW_some] <;> rfl) | (simp [*, errW_none, errW_some] <;> rfl), by repeat (first | (with_reducible first | exact HB.out | apply below_alloc | apply pw_below_drewN | apply below_drew1) | exact HB.out)⟩
                            · replace c38 := Bool.eq_false_iff.mpr c38
                              subst c38
                              have H1 : (some false) = some r := by rw [if_neg (show ¬ (false = true) by decide)] at H; exact H
                              clear H
                              have H := H1
                              clear H1
                              obtain rfl := Option.some.inj H
                              go_wp2_with (first | ((with_reducible refine gate_callee (f := 12) rfl ?_); refine goesL_ (some 52) rfl rfl Tryd.func12 (by kernel_rfl) rfl #[.string x5_1] rfl (by (try simp only [List.map_toArray, List.map_cons, List.map_nil]); first | done | rfl | (simp only [List.length_drop, List.length_take]; rfl)) ?_; (with_reducible refine (lex_Tokens.calls kj5 x5_1 t393 t394 _ A29.out ?side1).mono ?_); (case side1 => exact Tb.below HT.out (by repeat (first | (with_reducible first | exact HB.out | apply below_alloc | apply pw_below_drewN | apply below_drew1) | exact HB.out))); rintro e w73 ⟨v395, rfl, ho0, hb⟩; refine ⟨_, rfl, ?_⟩; have n0_ := Aside0.mk (Kd.R_lower ho0 (below_size (by repeat (first | (with_reducible first | exact HB.out | apply below_alloc | apply pw_below_drewN | apply below_drew1) | exact HB.out)))); have n1_ := Aside0.mk (below_step (by repeat (first | (with_reducible first | exact HB.out | apply below_alloc | apply pw_below_drewN | apply below_drew1) | exact HB.out)) hb); clear HB; have HO396 := n0_; have HB := n1_; clear n0_ n1_; (try clear hb); (try clear hb2); (try clear hk); (try clear hi); (try clear ho0)) | ((with_reducible refine gate_callee (f := 12) rfl ?_); refine goesL_ (some 58) rfl rfl Tryd.func12 (by kernel_rfl) rfl #[.string ((⟨#[55]⟩ : ByteArray) ++ x5_1)] rfl (by (try simp only [List.map_toArray, List.map_cons, List.map_nil]); first | done | rfl | (simp only [List.length_drop, List.length_take]; rfl)) ?_; (with_reducible refine (lex_Tokens.calls kj5 ((⟨#[55]⟩ : ByteArray) ++ x5_1) t397 t398 _ A31.out ?side1).mono ?_); (case side1 => exact Tb.below HT.out (by repeat (first | (with_reducible first | exact HB.out | apply below_alloc | apply pw_below_drewN | apply below_drew1) | exact HB.out))); rintro e w74 ⟨v399, rfl, ho0, hb⟩; refine ⟨_, rfl, ?_⟩; have n0_ := Aside0.mk (Kd.R_elder' (by (with_reducible repeat (first | apply Kd.R_alloc | apply Kd.R_drewN | apply Kd.R_drew)); exact HO396.out) (Kd.R_base ho0) hb); have n1_ := Aside0.mk (Kd.R_lower (Kd.R_new' ho0 (Kd.R_lt (by (with_reducible repeat (first | apply Kd.R_alloc | apply Kd.R_drewN | apply Kd.R_drew)); exact HO396.out))) (below_size (by repeat (first | (with_reducible first | exact HB.out | apply below_alloc | apply pw_below_drewN | apply below_drew1) | exact HB.out)))); have n2_ := Aside0.mk (below_step (by repeat (first | (with_reducible first | exact HB.out | apply below_alloc | apply pw_below_drewN | apply below_drew1) | exact HB.out)) hb); clear HO396; clear HB; have HO396 := n0_; have HO400 := n1_; have HB := n2_; clear n0_ n1_ n2_; (try clear hb); (try clear hb2); (try clear hk); (try clear hi); (try clear ho0); obtain ⟨Ao75, co75, eo75⟩ := Kd.R_slice HO396.out; subst eo75; have p401 : 0 ≤ (0 : Int) := (by omega); have q401 : 0 < (t393.length : Int) := of_decide_eq_true (by first | (with_reducible assumption) | assumption); obtain ⟨ad401, e401, hx401_0, hx401_1, hx401_2, hx401_3⟩ := at_T35 (Kd.R_reads' HO396.out).2.2 0 p401 q401; cases e401; have qi401 : (0 < t393.length) = True := eq_true (by omega); (try rw [show ((0 : Int)).toNat = 0 from rfl] at hx401_0); (try rw [show 0 * 4 = 0 from rfl] at hx401_0); (try rw [Addr.add_zero'] at hx401_0); (try rw [show ((0 : Int)).toNat = 0 from rfl] at hx401_1); (try rw [show 0 * 4 = 0 from rfl] at hx401_1); (try rw [Addr.add_zero'] at hx401_1); (try rw [show ((0 : Int)).toNat = 0 from rfl] at hx401_2); (try rw [show 0 * 4 = 0 from rfl] at hx401_2); (try rw [Addr.add_zero'] at hx401_2); (try rw [show ((0 : Int)).toNat = 0 from rfl] at hx401_3); (try rw [show 0 * 4 = 0 from rfl] at hx401_3); (try rw [Addr.add_zero'] at hx401_3); replace p401 := eq_true p401; replace q401 := eq_true q401; have p402 : 0 ≤ (0 : Int) := (by omega); have q402 : 0 < (t393.length : Int) := of_decide_eq_true (by first | (with_reducible assumption) | assumption); obtain ⟨ad402, e402, hx402_0, hx402_1, hx402_2, hx402_3⟩ := at_T35 (Kd.R_reads' HO396.out).2.2 0 p402 q402; obtain rfl : ad401 = ad402 := (by injection e402); have qi402 : (0 < t393.length) = True := eq_true (by omega); (try rw [show ((0 : Int)).toNat = 0 from rfl] at hx402_0); (try rw [show 0 * 4 = 0 from rfl] at hx402_0); (try rw [Addr.add_zero'] at hx402_0); (try rw [show ((0 : Int)).toNat = 0 from rfl] at hx402_1); (try rw [show 0 * 4 = 0 from rfl] at hx402_1); (try rw [Addr.add_zero'] at hx402_1); (try rw [show ((0 : Int)).toNat = 0 from rfl] at hx402_2); (try rw [show 0 * 4 = 0 from rfl] at hx402_2); (try rw [Addr.add_zero'] at hx402_2); (try rw [show ((0 : Int)).toNat = 0 from rfl] at hx402_3); (try rw [show 0 * 4 = 0 from rfl] at hx402_3); (try rw [Addr.add_zero'] at hx402_3); replace p402 := eq_true p402; replace q402 := eq_true q402) | (go_at_call 17; (with_reducible refine (lex_Ident.calls x5_1 false _ A37.out).mono ?_); rintro e w76 ⟨rfl, hb⟩; have n0_ := Aside0.mk (Kd.R_below (by (with_reducible repeat (first | apply Kd.R_alloc | apply Kd.R_drewN | apply Kd.R_drew)); exact HO396.out) hb); have n1_ := Aside0.mk (Kd.R_below (by (with_reducible repeat (first | apply Kd.R_alloc | apply Kd.R_drewN | apply Kd.R_drew)); exact HO400.out) hb); have n2_ := Aside0.mk (below_step (by repeat (first | (with_reducible first | exact HB.out | apply below_alloc | apply pw_below_drewN | apply below_drew1) | exact HB.out)) hb); clear HO396; clear HO400; clear HB; have HO396 := n0_; have HO400 := n1_; have HB := n2_; clear n0_ n1_ n2_; (try clear hb); (try clear hb2); (try clear hk); (try clear hi)))
                              go_ret
                              exact ⟨by first | rfl | (simp [errW_none, errW_some] <;> rfl) | (simp [*, errW_none, errW_some] <;> rfl), by repeat (first | (with_reducible first | exact HB.out | apply below_alloc | apply pw_below_drewN | apply below_drew1) | exact HB.out)⟩
                          · rw [if_neg c36] at H
                            have c36b0 : (((rd_T35 t393 0).f1).toList == x5_1.toList) = false := beq_eq_false_iff_ne.mpr c36
                            have c36b1 : (((rd_T35 t393 0).f1).toList != x5_1.toList) = true := bne_iff_ne.mpr c36
                            obtain rfl := Option.some.inj H
                            go_wp2_with (first | ((with_reducible refine gate_callee (f := 12) rfl ?_); refine goesL_ (some 52) rfl rfl Tryd.func12 (by kernel_rfl) rfl #[.string x5_1] rfl (by (try simp only [List.map_toArray, List.map_cons, List.map_nil]); first | done | rfl | (simp only [List.length_drop, List.length_take]; rfl)) ?_; (with_reducible refine (lex_Tokens.calls kj5 x5_1 t393 t394 _ A29.out ?side1).mono ?_); (case side1 => exact Tb.below HT.out (by repeat (first | (with_reducible first | exact HB.out | apply below_alloc | apply pw_below_drewN | apply below_drew1) | exact HB.out))); rintro e w77 ⟨v395, rfl, ho0, hb⟩; refine ⟨_, rfl, ?_⟩; have n0_ := Aside0.mk (Kd.R_lower ho0 (below_size (by repeat (first | (with_reducible first | exact HB.out | apply below_alloc | apply pw_below_drewN | apply below_drew1) | exact HB.out)))); have n1_ := Aside0.mk (below_step (by repeat (first | (with_reducible first | exact HB.out | apply below_alloc | apply pw_below_drewN | apply below_drew1) | exact HB.out)) hb); clear HB; have HO396 := n0_; have HB := n1_; clear n0_ n1_; (try clear hb); (try clear hb2); (try clear hk); (try clear hi); (try clear ho0)) | ((with_reducible refine gate_callee (f := 12) rfl ?_); refine goesL_ (some 58) rfl rfl Tryd.func12 (by kernel_rfl) rfl #[.string ((⟨#[55]⟩ : ByteArray) ++ x5_1)] rfl (by (try simp only [List.map_toArray, List.map_cons, List.map_nil]); first | done | rfl | (simp only [List.length_drop, List.length_take]; rfl)) ?_; (with_reducible refine (lex_Tokens.calls kj5 ((⟨#[55]⟩ : ByteArray) ++ x5_1) t397 t398 _ A31.out ?side1).mono ?_); (case side1 => exact Tb.below HT.out (by repeat (first | (with_reducible first | exact HB.out | apply below_alloc | apply pw_below_drewN | apply below_drew1) | exact HB.out))); rintro e w78 ⟨v399, rfl, ho0, hb⟩; refine ⟨_, rfl, ?_⟩; have n0_ := Aside0.mk (Kd.R_elder' (by (with_reducible repeat (first | apply Kd.R_alloc | apply Kd.R_drewN | apply Kd.R_drew)); exact HO396.out) (Kd.R_base ho0) hb); have n1_ := Aside0.mk (Kd.R_lower (Kd.R_new' ho0 (Kd.R_lt (by (with_reducible repeat (first | apply Kd.R_alloc | apply Kd.R_drewN | apply Kd.R_drew)); exact HO396.out))) (below_size (by repeat (first | (with_reducible first | exact HB.out | apply below_alloc | apply pw_below_drewN | apply below_drew1) | exact HB.out)))); have n2_ := Aside0.mk (below_step (by repeat (first | (with_reducible first | exact HB.out | apply below_alloc | apply pw_below_drewN | apply below_drew1) | exact HB.out)) hb); clear HO396; clear HB; have HO396 := n0_; have HO400 := n1_; have HB := n2_; clear n0_ n1_ n2_; (try clear hb); (try clear hb2); (try clear hk); (try clear hi); (try clear ho0); obtain ⟨Ao79, co79, eo79⟩ := Kd.R_slice HO396.out; subst eo79; have p401 : 0 ≤ (0 : Int) := (by omega); have q401 : 0 < (t393.length : Int) := of_decide_eq_true (by first | (with_reducible assumption) | assumption); obtain ⟨ad401, e401, hx401_0, hx401_1, hx401_2, hx401_3⟩ := at_T35 (Kd.R_reads' HO396.out).2.2 0 p401 q401; cases e401; have qi401 : (0 < t393.length) = True := eq_true (by omega); (try rw [show ((0 : Int)).toNat = 0 from rfl] at hx401_0); (try rw [show 0 * 4 = 0 from rfl] at hx401_0); (try rw [Addr.add_zero'] at hx401_0); (try rw [show ((0 : Int)).toNat = 0 from rfl] at hx401_1); (try rw [show 0 * 4 = 0 from rfl] at hx401_1); (try rw [Addr.add_zero'] at hx401_1); (try rw [show ((0 : Int)).toNat = 0 from rfl] at hx401_2); (try rw [show 0 * 4 = 0 from rfl] at hx401_2); (try rw [Addr.add_zero'] at hx401_2); (try rw [show ((0 : Int)).toNat = 0 from rfl] at hx401_3); (try rw [show 0 * 4 = 0 from rfl] at hx401_3); (try rw [Addr.add_zero'] at hx401_3); replace p401 := eq_true p401; replace q401 := eq_true q401; have p402 : 0 ≤ (0 : Int) := (by omega); have q402 : 0 < (t393.length : Int) := of_decide_eq_true (by first | (with_reducible assumption) | assumption); obtain ⟨ad402, e402, hx402_0, hx402_1, hx402_2, hx402_3⟩ := at_T35 (Kd.R_reads' HO396.out).2.2 0 p402 q402; obtain rfl : ad401 = ad402 := (by injection e402); have qi402 : (0 < t393.length) = True := eq_true (by omega); (try rw [show ((0 : Int)).toNat = 0 from rfl] at hx402_0); (try rw [show 0 * 4 = 0 from rfl] at hx402_0); (try rw [Addr.add_zero'] at hx402_0); (try rw [show ((0 : Int)).toNat = 0 from rfl] at hx402_1); (try rw [show 0 * 4 = 0 from rfl] at hx402_1); (try rw [Addr.add_zero'] at hx402_1); (try rw [show ((0 : Int)).toNat = 0 from rfl] at hx402_2); (try rw [show 0 * 4 = 0 from rfl] at hx402_2); (try rw [Addr.add_zero'] at hx402_2); (try rw [show ((0 : Int)).toNat = 0 from rfl] at hx402_3); (try rw [show 0 * 4 = 0 from rfl] at hx402_3); (try rw [Addr.add_zero'] at hx402_3); replace p402 := eq_true p402; replace q402 := eq_true q402))
                            go_ret
                            exact ⟨by first | rfl | (simp [errW_none, errW_some] <;> rfl) | (simp [*, errW_none, errW_some] <;> rfl), by repeat (first | (with_reducible first | exact HB.out | apply below_alloc | apply pw_below_drewN | apply below_drew1) | exact HB.out)⟩
                        · rw [if_neg c35] at H
                          have c35b0 : (((rd_T35 t393 0).f0) == 1) = false := beq_eq_false_iff_ne.mpr c35
                          have c35b1 : (((rd_T35 t393 0).f0) != 1) = true := bne_iff_ne.mpr c35
                          obtain rfl := Option.some.inj H
                          go_wp2_with (first | ((with_reducible refine gate_callee (f := 12) rfl ?_); refine goesL_ (some 52) rfl rfl Tryd.func12 (by kernel_rfl) rfl #[.string x5_1] rfl (by (try simp only [List.map_toArray, List.map_cons, List.map_nil]); first | done | rfl | (simp only [List.length_drop, List.length_take]; rfl)) ?_; (with_reducible refine (lex_Tokens.calls kj5 x5_1 t393 t394 _ A29.out ?side1).mono ?_); (case side1 => exact Tb.below HT.out (by repeat (first | (with_reducible first | exact HB.out | apply below_alloc | apply pw_below_drewN | apply below_drew1) | exact HB.out))); rintro e w80 ⟨v395, rfl, ho0, hb⟩; refine ⟨_, rfl, ?_⟩; have n0_ := Aside0.mk (Kd.R_lower ho0 (below_size (by repeat (first | (with_reducible first | exact HB.out | apply below_alloc | apply pw_below_drewN | apply below_drew1) | exact HB.out)))); have n1_ := Aside0.mk (below_step (by repeat (first | (with_reducible first | exact HB.out | apply below_alloc | apply pw_below_drewN | apply below_drew1) | exact HB.out)) hb); clear HB; have HO396 := n0_; have HB := n1_; clear n0_ n1_; (try clear hb); (try clear hb2); (try clear hk); (try clear hi); (try clear ho0)) | ((with_reducible refine gate_callee (f := 12) rfl ?_); refine goesL_ (some 58) rfl rfl Tryd.func12 (by kernel_rfl) rfl #[.string ((⟨#[55]⟩ : ByteArray) ++ x5_1)] rfl (by (try simp only [List.map_toArray, List.map_cons, List.map_nil]); first | done | rfl | (simp only [List.length_drop, List.length_take]; rfl)) ?_; (with_reducible refine (lex_Tokens.calls kj5 ((⟨#[55]⟩ : ByteArray) ++ x5_1) t397 t398 _ A31.out ?side1).mono ?_); (case side1 => exact Tb.below HT.out (by repeat (first | (with_reducible first | exact HB.out | apply below_alloc | apply pw_below_drewN | apply below_drew1) | exact HB.out))); rintro e w81 ⟨v399, rfl, ho0, hb⟩; refine ⟨_, rfl, ?_⟩; have n0_ := Aside0.mk (Kd.R_elder' (by (with_reducible repeat (first | apply Kd.R_alloc | apply Kd.R_drewN | apply Kd.R_drew)); exact HO396.out) (Kd.R_base ho0) hb); have n1_ := Aside0.mk (Kd.R_lower (Kd.R_new' ho0 (Kd.R_lt (by (with_reducible repeat (first | apply Kd.R_alloc | apply Kd.R_drewN | apply Kd.R_drew)); exact HO396.out))) (below_size (by repeat (first | (with_reducible first | exact HB.out | apply below_alloc | apply pw_below_drewN | apply below_drew1) | exact HB.out)))); have n2_ := Aside0.mk (below_step (by repeat (first | (with_reducible first | exact HB.out | apply below_alloc | apply pw_below_drewN | apply below_drew1) | exact HB.out)) hb); clear HO396; clear HB; have HO396 := n0_; have HO400 := n1_; have HB := n2_; clear n0_ n1_ n2_; (try clear hb); (try clear hb2); (try clear hk); (try clear hi); (try clear ho0); obtain ⟨Ao82, co82, eo82⟩ := Kd.R_slice HO396.out; subst eo82; have p401 : 0 ≤ (0 : Int) := (by omega); have q401 : 0 < (t393.length : Int) := of_decide_eq_true (by first | (with_reducible assumption) | assumption); obtain ⟨ad401, e401, hx401_0, hx401_1, hx401_2, hx401_3⟩ := at_T35 (Kd.R_reads' HO396.out).2.2 0 p401 q401; cases e401; have qi401 : (0 < t393.length) = True := eq_true (by omega); (try rw [show ((0 : Int)).toNat = 0 from rfl] at hx401_0); (try rw [show 0 * 4 = 0 from rfl] at hx401_0); (try rw [Addr.add_zero'] at hx401_0); (try rw [show ((0 : Int)).toNat = 0 from rfl] at hx401_1); (try rw [show 0 * 4 = 0 from rfl] at hx401_1); (try rw [Addr.add_zero'] at hx401_1); (try rw [show ((0 : Int)).toNat = 0 from rfl] at hx401_2); (try rw [show 0 * 4 = 0 from rfl] at hx401_2); (try rw [Addr.add_zero'] at hx401_2); (try rw [show ((0 : Int)).toNat = 0 from rfl] at hx401_3); (try rw [show 0 * 4 = 0 from rfl] at hx401_3); (try rw [Addr.add_zero'] at hx401_3); replace p401 := eq_true p401; replace q401 := eq_true q401))
                          go_ret
                          exact ⟨by first | rfl | (simp [errW_none, errW_some] <;> rfl) | (simp [*, errW_none, errW_some] <;> rfl), by repeat (first | (with_reducible first | exact HB.out | apply below_alloc | apply pw_below_drewN | apply below_drew1) | exact HB.out)⟩
                      · rw [if_neg c34] at H
                        exact absurd H (by simp)
                    · rw [if_neg c33] at H
                      have c33b0 : ((t393.length : Int) == 1) = false := beq_eq_false_iff_ne.mpr c33
                      have c33b1 : ((t393.length : Int) != 1) = true := bne_iff_ne.mpr c33
                      obtain rfl := Option.some.inj H
                      go_wp2_with (first | ((with_reducible refine gate_callee (f := 12) rfl ?_); refine goesL_ (some 52) rfl rfl Tryd.func12 (by kernel_rfl) rfl #[.string x5_1] rfl (by (try simp only [List.map_toArray, List.map_cons, List.map_nil]); first | done | rfl | (simp only [List.length_drop, List.length_take]; rfl)) ?_; (with_reducible refine (lex_Tokens.calls kj5 x5_1 t393 t394 _ A29.out ?side1).mono ?_); (case side1 => exact Tb.below HT.out (by repeat (first | (with_reducible first | exact HB.out | apply below_alloc | apply pw_below_drewN | apply below_drew1) | exact HB.out))); rintro e w83 ⟨v395, rfl, ho0, hb⟩; refine ⟨_, rfl, ?_⟩; have n0_ := Aside0.mk (Kd.R_lower ho0 (below_size (by repeat (first | (with_reducible first | exact HB.out | apply below_alloc | apply pw_below_drewN | apply below_drew1) | exact HB.out)))); have n1_ := Aside0.mk (below_step (by repeat (first | (with_reducible first | exact HB.out | apply below_alloc | apply pw_below_drewN | apply below_drew1) | exact HB.out)) hb); clear HB; have HO396 := n0_; have HB := n1_; clear n0_ n1_; (try clear hb); (try clear hb2); (try clear hk); (try clear hi); (try clear ho0)) | ((with_reducible refine gate_callee (f := 12) rfl ?_); refine goesL_ (some 58) rfl rfl Tryd.func12 (by kernel_rfl) rfl #[.string ((⟨#[55]⟩ : ByteArray) ++ x5_1)] rfl (by (try simp only [List.map_toArray, List.map_cons, List.map_nil]); first | done | rfl | (simp only [List.length_drop, List.length_take]; rfl)) ?_; (with_reducible refine (lex_Tokens.calls kj5 ((⟨#[55]⟩ : ByteArray) ++ x5_1) t397 t398 _ A31.out ?side1).mono ?_); (case side1 => exact Tb.below HT.out (by repeat (first | (with_reducible first | exact HB.out | apply below_alloc | apply pw_below_drewN | apply below_drew1) | exact HB.out))); rintro e w84 ⟨v399, rfl, ho0, hb⟩; refine ⟨_, rfl, ?_⟩; have n0_ := Aside0.mk (Kd.R_elder' (by (with_reducible repeat (first | apply Kd.R_alloc | apply Kd.R_drewN | apply Kd.R_drew)); exact HO396.out) (Kd.R_base ho0) hb); have n1_ := Aside0.mk (Kd.R_lower (Kd.R_new' ho0 (Kd.R_lt (by (with_reducible repeat (first | apply Kd.R_alloc | apply Kd.R_drewN | apply Kd.R_drew)); exact HO396.out))) (below_size (by repeat (first | (with_reducible first | exact HB.out | apply below_alloc | apply pw_below_drewN | apply below_drew1) | exact HB.out)))); have n2_ := Aside0.mk (below_step (by repeat (first | (with_reducible first | exact HB.out | apply below_alloc | apply pw_below_drewN | apply below_drew1) | exact HB.out)) hb); clear HO396; clear HB; have HO396 := n0_; have HO400 := n1_; have HB := n2_; clear n0_ n1_ n2_; (try clear hb); (try clear hb2); (try clear hk); (try clear hi); (try clear ho0); obtain ⟨Ao85, co85, eo85⟩ := Kd.R_slice HO396.out; subst eo85))
                      go_ret
                      exact ⟨by first | rfl | (simp [errW_none, errW_some] <;> rfl) | (simp [*, errW_none, errW_some] <;> rfl), by repeat (first | (with_reducible first | exact HB.out | apply below_alloc | apply pw_below_drewN | apply below_drew1) | exact HB.out)⟩
                  · rw [if_neg c32] at H
                    have c32b0 : (t394 == 0) = false := beq_eq_false_iff_ne.mpr c32
                    have c32b1 : (t394 != 0) = true := bne_iff_ne.mpr c32
                    obtain rfl := Option.some.inj H
                    go_wp2_with (first | ((with_reducible refine gate_callee (f := 12) rfl ?_); refine goesL_ (some 52) rfl rfl Tryd.func12 (by kernel_rfl) rfl #[.string x5_1] rfl (by (try simp only [List.map_toArray, List.map_cons, List.map_nil]); first | done | rfl | (simp only [List.length_drop, List.length_take]; rfl)) ?_; (with_reducible refine (lex_Tokens.calls kj5 x5_1 t393 t394 _ A29.out ?side1).mono ?_); (case side1 => exact Tb.below HT.out (by repeat (first | (with_reducible first | exact HB.out | apply below_alloc | apply pw_below_drewN | apply below_drew1) | exact HB.out))); rintro e w86 ⟨v395, rfl, ho0, hb⟩; refine ⟨_, rfl, ?_⟩; have n0_ := Aside0.mk (Kd.R_lower ho0 (below_size (by repeat (first | (with_reducible first | exact HB.out | apply below_alloc | apply pw_below_drewN | apply below_drew1) | exact HB.out)))); have n1_ := Aside0.mk (below_step (by repeat (first | (with_reducible first | exact HB.out | apply below_alloc | apply pw_below_drewN | apply below_drew1) | exact HB.out)) hb); clear HB; have HO396 := n0_; have HB := n1_; clear n0_ n1_; (try clear hb); (try clear hb2); (try clear hk); (try clear hi); (try clear ho0)) | ((with_reducible refine gate_callee (f := 12) rfl ?_); refine goesL_ (some 58) rfl rfl Tryd.func12 (by kernel_rfl) rfl #[.string ((⟨#[55]⟩ : ByteArray) ++ x5_1)] rfl (by (try simp only [List.map_toArray, List.map_cons, List.map_nil]); first | done | rfl | (simp only [List.length_drop, List.length_take]; rfl)) ?_; (with_reducible refine (lex_Tokens.calls kj5 ((⟨#[55]⟩ : ByteArray) ++ x5_1) t397 t398 _ A31.out ?side1).mono ?_); (case side1 => exact Tb.below HT.out (by repeat (first | (with_reducible first | exact HB.out | apply below_alloc | apply pw_below_drewN | apply below_drew1) | exact HB.out))); rintro e w87 ⟨v399, rfl, ho0, hb⟩; refine ⟨_, rfl, ?_⟩; have n0_ := Aside0.mk (Kd.R_elder' (by (with_reducible repeat (first | apply Kd.R_alloc | apply Kd.R_drewN | apply Kd.R_drew)); exact HO396.out) (Kd.R_base ho0) hb); have n1_ := Aside0.mk (Kd.R_lower (Kd.R_new' ho0 (Kd.R_lt (by (with_reducible repeat (first | apply Kd.R_alloc | apply Kd.R_drewN | apply Kd.R_drew)); exact HO396.out))) (below_size (by repeat (first | (with_reducible first | exact HB.out | apply below_alloc | apply pw_below_drewN | apply below_drew1) | exact HB.out)))); have n2_ := Aside0.mk (below_step (by repeat (first | (with_reducible first | exact HB.out | apply below_alloc | apply pw_below_drewN | apply below_drew1) | exact HB.out)) hb); clear HO396; clear HB; have HO396 := n0_; have HO400 := n1_; have HB := n2_; clear n0_ n1_ n2_; (try clear hb); (try clear hb2); (try clear hk); (try clear hi); (try clear ho0)))
                    go_ret
                    exact ⟨by first | rfl | (simp [errW_none, errW_some] <;> rfl) | (simp [*, errW_none, errW_some] <;> rfl), by repeat (first | (with_reducible first | exact HB.out | apply below_alloc | apply pw_below_drewN | apply below_drew1) | exact HB.out)⟩
                · rw [if_neg c30] at H
                  exact absurd H (by simp)
  · replace c4 := Bool.eq_false_iff.mpr c4
    subst c4
    have H1 : (some false) = some r := by rw [if_neg (show ¬ (false = true) by decide)] at H; exact H
    clear H
    have H := H1
    clear H1
    obtain rfl := Option.some.inj H
    go_enter Tryd.func7, Tryd.ntmps7
    go_wp2_with (first | ((with_reducible refine gate_callee (f := 8) rfl ?_); refine goesL_ (some 13) rfl rfl Tryd.func8 (by kernel_rfl) rfl #[] rfl (by (try simp only [List.map_toArray, List.map_cons, List.map_nil]); first | done | rfl | (simp only [List.length_drop, List.length_take]; rfl)) ?_; (with_reducible refine (chancellaw4_known.calls k  false _ A3.out ?side1).mono ?_); (case side1 => exact Tb.below HT.out (by repeat (first | (with_reducible first | exact HB.out | apply below_alloc | apply pw_below_drewN | apply below_drew1) | exact HB.out))); rintro e w88 ⟨rfl, hb⟩; refine ⟨_, rfl, ?_⟩; have n0_ := Aside0.mk (below_step (by repeat (first | (with_reducible first | exact HB.out | apply below_alloc | apply pw_below_drewN | apply below_drew1) | exact HB.out)) hb); clear HB; have HB := n0_; clear n0_; (try clear hb); (try clear hb2); (try clear hk); (try clear hi)))
    go_ret
    exact ⟨by first | rfl | (simp [errW_none, errW_some] <;> rfl) | (simp [*, errW_none, errW_some] <;> rfl), by repeat (first | (with_reducible first | exact HB.out | apply below_alloc | apply pw_below_drewN | apply below_drew1) | exact HB.out)⟩

/-- THE ONE PURE STATEMENT of chancellaw4_LexNames: yours. -/
def chancellaw4_LexNames.Pure : Prop := ∀ (l0 : List Int) (a1 : Int), l0.length ≤ maxLen → l0.length * 8 ≤ 140737488351232 → (∀ x ∈ l0, (Lit.int .i64 x).wf = true) → (Lit.int .i64 a1).wf = true → ∃ k, chancellaw4_LexNames.f k l0 a1 = some true
theorem chancellaw4_LexNames.walk (P : chancellaw4_LexNames.Pure) (a0 : Option Addr) (len0 cap0 : Nat) (z0 : List Int) (a1 : Int) (w : World) (w0 : (a0 = none ∧ len0 = 0 ∧ cap0 = 0 ∧ z0 = []) ∨ ∃ x, a0 = some x ∧ len0 ≤ cap0 ∧ cap0 ≤ maxLen ∧ z0.length = cap0 ∧ (∀ i, i < z0.length → w.cell? (x.add i) = some (.int .i64 (z0.getD i 0))) ∧ ∀ n ∈ z0, (Lit.int .i64 n).wf = true) (y0 : len0 * 8 ≤ 140737488351232) (w1 : (Lit.int .i64 a1).wf = true) (hT : Tb w) :
    Calls Tryd.prog 7 #[.slice a0 len0 cap0, .int .i64 a1] w fun e w' => e = .returned (.bool true) ∧ Below w.heap.size w w' := by
  obtain ⟨l0, rfl, hr0, hm0, hw0, hc0⟩ := ReadsInt.ofRowC w0
  obtain ⟨k, h⟩ := P l0 a1 hm0 y0 hw0 w1
  refine (chancellaw4_LexNames.calls k _ _ l0 a1 true w (Kd.C_of_reads (d := (0 : Int)) (h1 := fun _ => rfl) hr0) hc0 h hT).mono ?_
  rintro e w' ⟨rfl, hd⟩
  exact ⟨rfl, hd⟩

end Go.Proofs.YtaiegjgbdfmfpaaDoor.GL
