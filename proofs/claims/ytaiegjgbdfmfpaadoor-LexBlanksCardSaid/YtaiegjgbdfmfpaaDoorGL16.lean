-- Written by wip/tools/gprint.py over the kit's printer.
import Derived.Test.YtaiegjgbdfmfpaaDoorGL0
import Derived.Test.YtaiegjgbdfmfpaaDoorGL5
import Derived.Test.YtaiegjgbdfmfpaaDoorGL7
import Derived.Test.YtaiegjgbdfmfpaaDoorGL15
namespace Go.Proofs.YtaiegjgbdfmfpaaDoor.GL
open Go.RowKit Go.Proofs.YtaiegjgbdfmfpaaDoorW.PrintWords Go.Proofs.YtaiegjgbdfmfpaaDoorW.PrintLast Go.Proofs.YtaiegjgbdfmfpaaDoor.HandL Go.Proofs.YtaiegjgbdfmfpaaDoorW.PrintMore
attribute [local go_sem] max2_int min2_int max_two min_two max_three min_three max_four min_four   -- for this text's walks alone
set_option linter.unusedVariables false
set_option linter.unusedSimpArgs false

/-! ### chancellaw4_LexBlanks: function 3 -/
mutual
def chancellaw4_LexBlanks.l0 : Nat → List Int → List Int → List Int → ByteArray → ByteArray → Int → Option (Bool)
  | 0, _, _, _, _, _, _ => none
  | k + 1, x0, x1, x2, x7, x8, x9 => if x9 < (x0.length : Int) then (chancellaw4_LexBlanks.j1 k x0 x1 x2 x7 x8 x9 (decide (x9 < 25))) else (chancellaw4_LexBlanks.j1 k x0 x1 x2 x7 x8 x9 false)
def chancellaw4_LexBlanks.j1 : Nat → List Int → List Int → List Int → ByteArray → ByteArray → Int → Bool → Option (Bool)
  | 0, _, _, _, _, _, _, _ => none
  | k + 1, x0, x1, x2, x7, x8, x9, x27 => if x27 = true then (if 0 ≤ x9 then (if x9 < (x0.length : Int) then ((chancellaw4_piece.f k (rd x0 x9) x1).bind fun t294 => ((chancelref4_Tokens.f k t294).bind fun bt295 => (if bt295.2 = 0 then (if x7.size + t294.size ≤ 9223372036854775807 then (if (x7 ++ t294).size + 1 ≤ 9223372036854775807 then (if x8.size + t294.size ≤ 9223372036854775807 then (if (x8 ++ t294).size + 1 ≤ 9223372036854775807 then (if x9 < (x2.length : Int) then ((some (([(⟨#[]⟩ : ByteArray), (⟨#[32, 32]⟩ : ByteArray), (⟨#[47, 47, 32, 97, 32, 114, 101, 109, 97, 114, 107, 10]⟩ : ByteArray), (⟨#[9, 13, 10]⟩ : ByteArray), (⟨#[47, 47, 10, 47, 47, 10]⟩ : ByteArray)] : List ByteArray) : List ByteArray)).bind fun y299 => ((chancellaw4_within.f (rd x2 x9) 5).bind fun t303 => (if 0 ≤ t303 then (if t303 < (y299.length : Int) then (if ((x8 ++ t294) ++ (⟨#[10]⟩ : ByteArray)).size + (rdOf ByteArray.empty y299 t303).size ≤ 9223372036854775807 then (chancellaw4_LexBlanks.l0 k x0 x1 x2 ((x7 ++ t294) ++ (⟨#[32]⟩ : ByteArray)) (((x8 ++ t294) ++ (⟨#[10]⟩ : ByteArray)) ++ (rdOf ByteArray.empty y299 t303)) (wrap64 (x9 + 1))) else (none)) else (none)) else (none)))) else (chancellaw4_LexBlanks.l0 k x0 x1 x2 ((x7 ++ t294) ++ (⟨#[32]⟩ : ByteArray)) ((x8 ++ t294) ++ (⟨#[10]⟩ : ByteArray)) (wrap64 (x9 + 1)))) else (none)) else (none)) else (none)) else (none)) else (some true)))) else (none)) else (none)) else (if (x7.size : Int) > 600 then (chancellaw4_LexBlanks.j2 k x7 x8 true) else (chancellaw4_LexBlanks.j2 k x7 x8 (decide ((x8.size : Int) > 600))))
def chancellaw4_LexBlanks.j2 : Nat → ByteArray → ByteArray → Bool → Option (Bool)
  | 0, _, _, _ => none
  | k + 1, x7, x8, x72 => if x72 = true then (some true) else ((lex_Tokens.f k x7).bind fun bt305 => ((lex_Tokens.f k x8).bind fun bt309 => (if bt305.2 = 0 then (if bt309.2 = 0 then (chancellaw4_LexBlanks.j3 k bt305.1 bt309.1 ((bt305.1.length : Int) != (bt309.1.length : Int))) else (chancellaw4_LexBlanks.j3 k bt305.1 bt309.1 true)) else (chancellaw4_LexBlanks.j3 k bt305.1 bt309.1 true))))
def chancellaw4_LexBlanks.j3 : Nat → List (S35) → List (S35) → Bool → Option (Bool)
  | 0, _, _, _ => none
  | k + 1, x13, x15, x95 => if x95 = true then (some false) else (chancellaw4_LexBlanks.l1 k x13 x15 0)
def chancellaw4_LexBlanks.l1 : Nat → List (S35) → List (S35) → Int → Option (Bool)
  | 0, _, _, _ => none
  | k + 1, x13, x15, x17 => if x17 < (x13.length : Int) then (if 0 ≤ x17 then (if x17 < (x15.length : Int) then (if ((rd_T35 x13 x17).f0) = ((rd_T35 x15 x17).f0) then (if ((rd_T35 x13 x17).f1).toList = ((rd_T35 x15 x17).f1).toList then (if ((rd_T35 x13 x17).f2) = ((rd_T35 x15 x17).f2) then (if x17 > 0 then (if 0 ≤ (wrap64 (x17 - 1)) then (if (wrap64 (x17 - 1)) < (x15.length : Int) then (if ((rd_T35 x15 x17).f3) ≤ ((rd_T35 x15 (wrap64 (x17 - 1))).f3) then (some false) else (chancellaw4_LexBlanks.l1 k x13 x15 (wrap64 (x17 + 1)))) else (none)) else (none)) else (chancellaw4_LexBlanks.l1 k x13 x15 (wrap64 (x17 + 1)))) else (some false)) else (some false)) else (some false)) else (none)) else (none)) else (some true)
end
def chancellaw4_LexBlanks.f (k : Nat) (l0 : List Int) (l1 : List Int) (l2 : List Int) : Option (Bool) := (chancellaw4_known.f k).bind fun t292 => (if t292 = true then (chancellaw4_LexBlanks.l0 k l0 l1 l2 (⟨#[]⟩ : ByteArray) (⟨#[]⟩ : ByteArray) 0) else (some false))
theorem chancellaw4_LexBlanks.mono_l : ∀ k, (∀ y0 y1 y2 y3 y4 y5, LeO (chancellaw4_LexBlanks.l0 k y0 y1 y2 y3 y4 y5) (chancellaw4_LexBlanks.l0 (k + 1) y0 y1 y2 y3 y4 y5)) ∧ (∀ y0 y1 y2 y3 y4 y5 y6, LeO (chancellaw4_LexBlanks.j1 k y0 y1 y2 y3 y4 y5 y6) (chancellaw4_LexBlanks.j1 (k + 1) y0 y1 y2 y3 y4 y5 y6)) ∧ (∀ y0 y1 y2, LeO (chancellaw4_LexBlanks.j2 k y0 y1 y2) (chancellaw4_LexBlanks.j2 (k + 1) y0 y1 y2)) ∧ (∀ y0 y1 y2, LeO (chancellaw4_LexBlanks.j3 k y0 y1 y2) (chancellaw4_LexBlanks.j3 (k + 1) y0 y1 y2)) ∧ (∀ y0 y1 y2, LeO (chancellaw4_LexBlanks.l1 k y0 y1 y2) (chancellaw4_LexBlanks.l1 (k + 1) y0 y1 y2))
  | 0 => ⟨fun _ _ _ _ _ _ r h => by simp [chancellaw4_LexBlanks.l0] at h, fun _ _ _ _ _ _ _ r h => by simp [chancellaw4_LexBlanks.j1] at h, fun _ _ _ r h => by simp [chancellaw4_LexBlanks.j2] at h, fun _ _ _ r h => by simp [chancellaw4_LexBlanks.j3] at h, fun _ _ _ r h => by simp [chancellaw4_LexBlanks.l1] at h⟩
  | k + 1 => by
    obtain ⟨ih0, ih1, ih2, ih3, ih4⟩ := chancellaw4_LexBlanks.mono_l k
    refine ⟨?_, ?_, ?_, ?_, ?_⟩
    · intro y0 y1 y2 y3 y4 y5
      unfold chancellaw4_LexBlanks.l0
      repeat' first
      | (with_reducible exact ih0 _ _ _ _ _ _)
      | (with_reducible exact ih1 _ _ _ _ _ _ _)
      | (with_reducible exact ih2 _ _ _)
      | (with_reducible exact ih3 _ _ _)
      | (with_reducible exact ih4 _ _ _)
      | (with_reducible exact chancellaw4_known.mono _)
      | (with_reducible exact chancellaw4_piece.mono _ _ _)
      | (with_reducible exact chancelref4_Tokens.mono _ _)
      | (with_reducible exact lex_Tokens.mono _ _)
      | (with_reducible exact LeO.refl _)
      | (with_reducible exact LeO.none _)
      | (with_reducible refine LeO.ite ?_ ?_)
      | (with_reducible refine LeO.bind ?_ (fun _ => ?_))
      | exact ih0 _ _ _ _ _ _
      | exact ih1 _ _ _ _ _ _ _
      | exact ih2 _ _ _
      | exact ih3 _ _ _
      | exact ih4 _ _ _
      | exact chancellaw4_known.mono _
      | exact chancellaw4_piece.mono _ _ _
      | exact chancelref4_Tokens.mono _ _
      | exact lex_Tokens.mono _ _
      | exact LeO.none _
      | refine LeO.ite ?_ ?_
      | refine LeO.bind ?_ (fun _ => ?_)
    · intro y0 y1 y2 y3 y4 y5 y6
      unfold chancellaw4_LexBlanks.j1
      repeat' first
      | (with_reducible exact ih0 _ _ _ _ _ _)
      | (with_reducible exact ih1 _ _ _ _ _ _ _)
      | (with_reducible exact ih2 _ _ _)
      | (with_reducible exact ih3 _ _ _)
      | (with_reducible exact ih4 _ _ _)
      | (with_reducible exact chancellaw4_known.mono _)
      | (with_reducible exact chancellaw4_piece.mono _ _ _)
      | (with_reducible exact chancelref4_Tokens.mono _ _)
      | (with_reducible exact lex_Tokens.mono _ _)
      | (with_reducible exact LeO.refl _)
      | (with_reducible exact LeO.none _)
      | (with_reducible refine LeO.ite ?_ ?_)
      | (with_reducible refine LeO.bind ?_ (fun _ => ?_))
      | exact ih0 _ _ _ _ _ _
      | exact ih1 _ _ _ _ _ _ _
      | exact ih2 _ _ _
      | exact ih3 _ _ _
      | exact ih4 _ _ _
      | exact chancellaw4_known.mono _
      | exact chancellaw4_piece.mono _ _ _
      | exact chancelref4_Tokens.mono _ _
      | exact lex_Tokens.mono _ _
      | exact LeO.none _
      | refine LeO.ite ?_ ?_
      | refine LeO.bind ?_ (fun _ => ?_)
    · intro y0 y1 y2
      unfold chancellaw4_LexBlanks.j2
      repeat' first
      | (with_reducible exact ih0 _ _ _ _ _ _)
      | (with_reducible exact ih1 _ _ _ _ _ _ _)
      | (with_reducible exact ih2 _ _ _)
      | (with_reducible exact ih3 _ _ _)
      | (with_reducible exact ih4 _ _ _)
      | (with_reducible exact chancellaw4_known.mono _)
      | (with_reducible exact chancellaw4_piece.mono _ _ _)
      | (with_reducible exact chancelref4_Tokens.mono _ _)
      | (with_reducible exact lex_Tokens.mono _ _)
      | (with_reducible exact LeO.refl _)
      | (with_reducible exact LeO.none _)
      | (with_reducible refine LeO.ite ?_ ?_)
      | (with_reducible refine LeO.bind ?_ (fun _ => ?_))
      | exact ih0 _ _ _ _ _ _
      | exact ih1 _ _ _ _ _ _ _
      | exact ih2 _ _ _
      | exact ih3 _ _ _
      | exact ih4 _ _ _
      | exact chancellaw4_known.mono _
      | exact chancellaw4_piece.mono _ _ _
      | exact chancelref4_Tokens.mono _ _
      | exact lex_Tokens.mono _ _
      | exact LeO.none _
      | refine LeO.ite ?_ ?_
      | refine LeO.bind ?_ (fun _ => ?_)
    · intro y0 y1 y2
      unfold chancellaw4_LexBlanks.j3
      repeat' first
      | (with_reducible exact ih0 _ _ _ _ _ _)
      | (with_reducible exact ih1 _ _ _ _ _ _ _)
      | (with_reducible exact ih2 _ _ _)
      | (with_reducible exact ih3 _ _ _)
      | (with_reducible exact ih4 _ _ _)
      | (with_reducible exact chancellaw4_known.mono _)
      | (with_reducible exact chancellaw4_piece.mono _ _ _)
      | (with_reducible exact chancelref4_Tokens.mono _ _)
      | (with_reducible exact lex_Tokens.mono _ _)
      | (with_reducible exact LeO.refl _)
      | (with_reducible exact LeO.none _)
      | (with_reducible refine LeO.ite ?_ ?_)
      | (with_reducible refine LeO.bind ?_ (fun _ => ?_))
      | exact ih0 _ _ _ _ _ _
      | exact ih1 _ _ _ _ _ _ _
      | exact ih2 _ _ _
      | exact ih3 _ _ _
      | exact ih4 _ _ _
      | exact chancellaw4_known.mono _
      | exact chancellaw4_piece.mono _ _ _
      | exact chancelref4_Tokens.mono _ _
      | exact lex_Tokens.mono _ _
      | exact LeO.none _
      | refine LeO.ite ?_ ?_
      | refine LeO.bind ?_ (fun _ => ?_)
    · intro y0 y1 y2
      unfold chancellaw4_LexBlanks.l1
      repeat' first
      | (with_reducible exact ih0 _ _ _ _ _ _)
      | (with_reducible exact ih1 _ _ _ _ _ _ _)
      | (with_reducible exact ih2 _ _ _)
      | (with_reducible exact ih3 _ _ _)
      | (with_reducible exact ih4 _ _ _)
      | (with_reducible exact chancellaw4_known.mono _)
      | (with_reducible exact chancellaw4_piece.mono _ _ _)
      | (with_reducible exact chancelref4_Tokens.mono _ _)
      | (with_reducible exact lex_Tokens.mono _ _)
      | (with_reducible exact LeO.refl _)
      | (with_reducible exact LeO.none _)
      | (with_reducible refine LeO.ite ?_ ?_)
      | (with_reducible refine LeO.bind ?_ (fun _ => ?_))
      | exact ih0 _ _ _ _ _ _
      | exact ih1 _ _ _ _ _ _ _
      | exact ih2 _ _ _
      | exact ih3 _ _ _
      | exact ih4 _ _ _
      | exact chancellaw4_known.mono _
      | exact chancellaw4_piece.mono _ _ _
      | exact chancelref4_Tokens.mono _ _
      | exact lex_Tokens.mono _ _
      | exact LeO.none _
      | refine LeO.ite ?_ ?_
      | refine LeO.bind ?_ (fun _ => ?_)
theorem chancellaw4_LexBlanks.mono : ∀ a0 a1 a2 k, LeO (chancellaw4_LexBlanks.f k a0 a1 a2) (chancellaw4_LexBlanks.f (k + 1) a0 a1 a2) := by
  intro a0 a1 a2 k
  obtain ⟨ih0, ih1, ih2, ih3, ih4⟩ := chancellaw4_LexBlanks.mono_l k
  unfold chancellaw4_LexBlanks.f
  repeat' first
      | (with_reducible exact ih0 _ _ _ _ _ _)
      | (with_reducible exact ih1 _ _ _ _ _ _ _)
      | (with_reducible exact ih2 _ _ _)
      | (with_reducible exact ih3 _ _ _)
      | (with_reducible exact ih4 _ _ _)
      | (with_reducible exact chancellaw4_known.mono _)
      | (with_reducible exact chancellaw4_piece.mono _ _ _)
      | (with_reducible exact chancelref4_Tokens.mono _ _)
      | (with_reducible exact lex_Tokens.mono _ _)
      | (with_reducible exact LeO.refl _)
      | (with_reducible exact LeO.none _)
      | (with_reducible refine LeO.ite ?_ ?_)
      | (with_reducible refine LeO.bind ?_ (fun _ => ?_))
      | exact ih0 _ _ _ _ _ _
      | exact ih1 _ _ _ _ _ _ _
      | exact ih2 _ _ _
      | exact ih3 _ _ _
      | exact ih4 _ _ _
      | exact chancellaw4_known.mono _
      | exact chancellaw4_piece.mono _ _ _
      | exact chancelref4_Tokens.mono _ _
      | exact lex_Tokens.mono _ _
      | exact LeO.none _
      | refine LeO.ite ?_ ?_
      | refine LeO.bind ?_ (fun _ => ?_)
set_option maxHeartbeats 8000000 in
set_option maxRecDepth 100000 in
theorem chancellaw4_LexBlanks.calls (k : Nat) (A0 : Option Addr) (c0 : Nat) (l0 : List Int) (A1 : Option Addr) (c1 : Nat) (l1 : List Int) (A2 : Option Addr) (c2 : Nat) (l2 : List Int) (r : Bool) (w : World) (hr0 : Kd.C (Kd.int .i64) w A0 l0.length l0) (hc0 : l0.length ≤ c0) (hr1 : Kd.C (Kd.int .i64) w A1 l1.length l1) (hc1 : l1.length ≤ c1) (hr2 : Kd.C (Kd.int .i64) w A2 l2.length l2) (hc2 : l2.length ≤ c2) (h : chancellaw4_LexBlanks.f k l0 l1 l2 = some r) (hT : Tb w) :
    Calls Tryd.prog 3 #[.slice A0 l0.length c0, .slice A1 l1.length c1, .slice A2 l2.length c2] w fun e w' => e = .returned (.bool r) ∧ Below w.heap.size w w' := by
  have HR0 := Aside0.mk hr0
  have HC0 := Aside0.mk hc0
  clear hr0 hc0
  have HR1 := Aside0.mk hr1
  have HC1 := Aside0.mk hc1
  clear hr1 hc1
  have HR2 := Aside0.mk hr2
  have HC2 := Aside0.mk hc2
  clear hr2 hc2
  have HB := Aside0.mk (Below.refl w.heap.size w)
  have H : ((chancellaw4_known.f k).bind fun t292 => (if t292 = true then (chancellaw4_LexBlanks.l0 k l0 l1 l2 (⟨#[]⟩ : ByteArray) (⟨#[]⟩ : ByteArray) 0) else (some false))) = some r := h
  clear h
  have HT := Aside0.mk hT
  clear hT
  replace H := Option.bind_eq_some_iff.mp H
  obtain ⟨t292, A40, H⟩ := H
  replace H : (if t292 = true then (chancellaw4_LexBlanks.l0 k l0 l1 l2 (⟨#[]⟩ : ByteArray) (⟨#[]⟩ : ByteArray) 0) else (some false)) = some r := H
  have A4 := Aside0.mk A40
  clear A40
  by_cases c5 : t292 = true
  · subst c5
    have H1 : (chancellaw4_LexBlanks.l0 k l0 l1 l2 (⟨#[]⟩ : ByteArray) (⟨#[]⟩ : ByteArray) 0) = some r := by rw [if_pos rfl] at H; exact H
    clear H
    have H := H1
    clear H1
    have H' := Aside0.mk H
    clear H
    go_enter Tryd.func3, Tryd.ntmps3
    go_wp2_with (first | (go_at_call 8; (with_reducible refine (chancellaw4_known.calls k  true _ A4.out ?side1).mono ?_); (case side1 => exact Tb.below HT.out (by repeat (first | (with_reducible first | exact HB.out | apply below_alloc | apply pw_below_drewN | apply below_drew1) | exact HB.out))); rintro e w6 ⟨rfl, hb⟩; have n0_ := Aside0.mk (below_step (by repeat (first | (with_reducible first | exact HB.out | apply below_alloc | apply pw_below_drewN | apply below_drew1) | exact HB.out)) hb); clear HB; have HB := n0_; clear n0_; (try clear hb); (try clear hb2); (try clear hk); (try clear hi)))
    repeat (go_quiet (first | (go_at_call 8; (with_reducible refine (chancellaw4_known.calls k  true _ A4.out ?side1).mono ?_); (case side1 => exact Tb.below HT.out (by repeat (first | (with_reducible first | exact HB.out | apply below_alloc | apply pw_below_drewN | apply below_drew1) | exact HB.out))); rintro e w6 ⟨rfl, hb⟩; have n0_ := Aside0.mk (below_step (by repeat (first | (with_reducible first | exact HB.out | apply below_alloc | apply pw_below_drewN | apply below_drew1) | exact HB.out)) hb); clear HB; have HB := n0_; clear n0_; (try clear hb); (try clear hb2); (try clear hk); (try clear hi))); try go_wp2_with (first | (go_at_call 8; (with_reducible refine (chancellaw4_known.calls k  true _ A4.out ?side1).mono ?_); (case side1 => exact Tb.below HT.out (by repeat (first | (with_reducible first | exact HB.out | apply below_alloc | apply pw_below_drewN | apply below_drew1) | exact HB.out))); rintro e w6 ⟨rfl, hb⟩; have n0_ := Aside0.mk (below_step (by repeat (first | (with_reducible first | exact HB.out | apply below_alloc | apply pw_below_drewN | apply below_drew1) | exact HB.out)) hb); clear HB; have HB := n0_; clear n0_; (try clear hb); (try clear hb2); (try clear hk); (try clear hi))))
    go_loopg [7, 8, 9] k (fun kq v7 v8 v9 w' => ∃ (x7_1 : ByteArray) (x8_1 : ByteArray) (x9_1 : Int), v7 = .string x7_1 ∧ v8 = .string x8_1 ∧ v9 = .int .i64 x9_1 ∧ Aside0 (chancellaw4_LexBlanks.l0 kq l0 l1 l2 x7_1 x8_1 x9_1 = some r) ∧ Aside0 (kq ≤ k) ∧ Aside0 (Below w.heap.size w w'))
    case atStart => exact ⟨((⟨#[]⟩ : ByteArray)), ((⟨#[]⟩ : ByteArray)), (0), (by first | rfl | (simp; done) | (simp [*]; done)), (by first | rfl | (simp; done) | (simp [*]; done)), (by first | rfl | (simp; done) | (simp [*]; done)), H', ⟨Nat.le_refl _⟩, ⟨by repeat (first | (with_reducible first | exact HB.out | apply below_alloc | apply pw_below_drewN | apply below_drew1) | exact HB.out)⟩⟩
    case round =>
      clear H'
      try clear c1
      try clear c2
      try clear p2
      try clear c3
      try clear c5
      obtain ⟨x7_1, x8_1, x9_1, rfl, rfl, rfl, HA, HK1, HB⟩ := hrel
      cases gk with
      | zero => exact absurd HA.out (by simp [chancellaw4_LexBlanks.l0])
      | succ k1 =>
        have H := HA.out
        clear HA
        simp only [chancellaw4_LexBlanks.l0] at H
        have HC7 := Aside0.mk H
        clear H
        go_upto_region 5 with (fail)
        repeat (go_quiet (fail); go_upto_region 5 with (fail))
        go_cut [27] (fun v27 wc => ∃ (kq : Nat) (x27_6 : Bool), v27 = .bool x27_6 ∧ Aside0 (chancellaw4_LexBlanks.j1 kq l0 l1 l2 x7_1 x8_1 x9_1 x27_6 = some r) ∧ Aside0 (kq ≤ k1) ∧ Aside0 (Below w.heap.size w wc))
        case first =>
          have H := HC7.out
          clear HC7
          by_cases c8 : x9_1 < (l0.length : Int)
          · rw [if_pos c8] at H
            have c8b0 : decide (x9_1 < (l0.length : Int)) = true := decide_eq_true c8
            clear c8
            (first | rw [c8b0] | (simp only [i64_w, i32_w]; rw [c8b0]) | skip)
            have H' := Aside0.mk H
            clear H
            go_wp2
            repeat (go_quiet (fail); try go_wp2)
            go_meet
            case rel => exact ⟨_, (decide (x9_1 < 25)), (by first | rfl | (simp; done) | (simp [*]; done)), H', ⟨by have := HK1.out; first | omega | exact Nat.le_refl _⟩, ⟨by repeat (first | (with_reducible first | exact HB.out | apply below_alloc | apply pw_below_drewN | apply below_drew1) | exact HB.out)⟩⟩
          · rw [if_neg c8] at H
            have c8b0 : decide (x9_1 < (l0.length : Int)) = false := decide_eq_false c8
            clear c8
            (first | rw [c8b0] | (simp only [i64_w, i32_w]; rw [c8b0]) | skip)
            have H' := Aside0.mk H
            clear H
            go_wp2
            repeat (go_quiet (fail); try go_wp2)
            go_meet
            case rel => exact ⟨_, (false), (by first | rfl | (simp; done) | (simp [*]; done)), H', ⟨by have := HK1.out; first | omega | exact Nat.le_refl _⟩, ⟨by repeat (first | (with_reducible first | exact HB.out | apply below_alloc | apply pw_below_drewN | apply below_drew1) | exact HB.out)⟩⟩
        case rest =>
          clear HC7
          try clear c1
          try clear c2
          try clear p2
          try clear c3
          try clear c5
          try clear c8
          try clear c8b0
          try clear p2
          obtain ⟨kq, x27_6, rfl, HA, HJ6, HB⟩ := hcut
          cases kq with
          | zero => exact absurd HA.out (by simp [chancellaw4_LexBlanks.j1])
          | succ kj6 =>
            have H := HA.out
            clear HA
            simp only [chancellaw4_LexBlanks.j1] at H
            by_cases c9 : x27_6 = true
            · subst c9
              have H1 : (if 0 ≤ x9_1 then (if x9_1 < (l0.length : Int) then ((chancellaw4_piece.f kj6 (rd l0 x9_1) l1).bind fun t294 => ((chancelref4_Tokens.f kj6 t294).bind fun bt295 => (if bt295.2 = 0 then (if x7_1.size + t294.size ≤ 9223372036854775807 then (if (x7_1 ++ t294).size + 1 ≤ 9223372036854775807 then (if x8_1.size + t294.size ≤ 9223372036854775807 then (if (x8_1 ++ t294).size + 1 ≤ 9223372036854775807 then (if x9_1 < (l2.length : Int) then ((some (([(⟨#[]⟩ : ByteArray), (⟨#[32, 32]⟩ : ByteArray), (⟨#[47, 47, 32, 97, 32, 114, 101, 109, 97, 114, 107, 10]⟩ : ByteArray), (⟨#[9, 13, 10]⟩ : ByteArray), (⟨#[47, 47, 10, 47, 47, 10]⟩ : ByteArray)] : List ByteArray) : List ByteArray)).bind fun y299 => ((chancellaw4_within.f (rd l2 x9_1) 5).bind fun t303 => (if 0 ≤ t303 then (if t303 < (y299.length : Int) then (if ((x8_1 ++ t294) ++ (⟨#[10]⟩ : ByteArray)).size + (rdOf ByteArray.empty y299 t303).size ≤ 9223372036854775807 then (chancellaw4_LexBlanks.l0 kj6 l0 l1 l2 ((x7_1 ++ t294) ++ (⟨#[32]⟩ : ByteArray)) (((x8_1 ++ t294) ++ (⟨#[10]⟩ : ByteArray)) ++ (rdOf ByteArray.empty y299 t303)) (wrap64 (x9_1 + 1))) else (none)) else (none)) else (none)))) else (chancellaw4_LexBlanks.l0 kj6 l0 l1 l2 ((x7_1 ++ t294) ++ (⟨#[32]⟩ : ByteArray)) ((x8_1 ++ t294) ++ (⟨#[10]⟩ : ByteArray)) (wrap64 (x9_1 + 1)))) else (none)) else (none)) else (none)) else (none)) else (some true)))) else (none)) else (none)) = some r := by rw [if_pos rfl] at H; exact H
              clear H
              have H := H1
              clear H1
              by_cases c10 : 0 ≤ x9_1
              · rw [if_pos c10] at H
                have c10b0 : decide (0 ≤ x9_1) = true := decide_eq_true c10
                clear c10
                by_cases c11 : x9_1 < (l0.length : Int)
                · rw [if_pos c11] at H
                  have c11b0 : decide (x9_1 < (l0.length : Int)) = true := decide_eq_true c11
                  clear c11
                  replace H := Option.bind_eq_some_iff.mp H
                  obtain ⟨t294, A120, H⟩ := H
                  replace H : ((chancelref4_Tokens.f kj6 t294).bind fun bt295 => (if bt295.2 = 0 then (if x7_1.size + t294.size ≤ 9223372036854775807 then (if (x7_1 ++ t294).size + 1 ≤ 9223372036854775807 then (if x8_1.size + t294.size ≤ 9223372036854775807 then (if (x8_1 ++ t294).size + 1 ≤ 9223372036854775807 then (if x9_1 < (l2.length : Int) then ((some (([(⟨#[]⟩ : ByteArray), (⟨#[32, 32]⟩ : ByteArray), (⟨#[47, 47, 32, 97, 32, 114, 101, 109, 97, 114, 107, 10]⟩ : ByteArray), (⟨#[9, 13, 10]⟩ : ByteArray), (⟨#[47, 47, 10, 47, 47, 10]⟩ : ByteArray)] : List ByteArray) : List ByteArray)).bind fun y299 => ((chancellaw4_within.f (rd l2 x9_1) 5).bind fun t303 => (if 0 ≤ t303 then (if t303 < (y299.length : Int) then (if ((x8_1 ++ t294) ++ (⟨#[10]⟩ : ByteArray)).size + (rdOf ByteArray.empty y299 t303).size ≤ 9223372036854775807 then (chancellaw4_LexBlanks.l0 kj6 l0 l1 l2 ((x7_1 ++ t294) ++ (⟨#[32]⟩ : ByteArray)) (((x8_1 ++ t294) ++ (⟨#[10]⟩ : ByteArray)) ++ (rdOf ByteArray.empty y299 t303)) (wrap64 (x9_1 + 1))) else (none)) else (none)) else (none)))) else (chancellaw4_LexBlanks.l0 kj6 l0 l1 l2 ((x7_1 ++ t294) ++ (⟨#[32]⟩ : ByteArray)) ((x8_1 ++ t294) ++ (⟨#[10]⟩ : ByteArray)) (wrap64 (x9_1 + 1)))) else (none)) else (none)) else (none)) else (none)) else (some true))) = some r := H
                  have A12 := Aside0.mk A120
                  clear A120
                  replace H := Option.bind_eq_some_iff.mp H
                  obtain ⟨⟨t295, t296⟩, A130, H⟩ := H
                  replace H : (if t296 = 0 then (if x7_1.size + t294.size ≤ 9223372036854775807 then (if (x7_1 ++ t294).size + 1 ≤ 9223372036854775807 then (if x8_1.size + t294.size ≤ 9223372036854775807 then (if (x8_1 ++ t294).size + 1 ≤ 9223372036854775807 then (if x9_1 < (l2.length : Int) then ((some (([(⟨#[]⟩ : ByteArray), (⟨#[32, 32]⟩ : ByteArray), (⟨#[47, 47, 32, 97, 32, 114, 101, 109, 97, 114, 107, 10]⟩ : ByteArray), (⟨#[9, 13, 10]⟩ : ByteArray), (⟨#[47, 47, 10, 47, 47, 10]⟩ : ByteArray)] : List ByteArray) : List ByteArray)).bind fun y299 => ((chancellaw4_within.f (rd l2 x9_1) 5).bind fun t303 => (if 0 ≤ t303 then (if t303 < (y299.length : Int) then (if ((x8_1 ++ t294) ++ (⟨#[10]⟩ : ByteArray)).size + (rdOf ByteArray.empty y299 t303).size ≤ 9223372036854775807 then (chancellaw4_LexBlanks.l0 kj6 l0 l1 l2 ((x7_1 ++ t294) ++ (⟨#[32]⟩ : ByteArray)) (((x8_1 ++ t294) ++ (⟨#[10]⟩ : ByteArray)) ++ (rdOf ByteArray.empty y299 t303)) (wrap64 (x9_1 + 1))) else (none)) else (none)) else (none)))) else (chancellaw4_LexBlanks.l0 kj6 l0 l1 l2 ((x7_1 ++ t294) ++ (⟨#[32]⟩ : ByteArray)) ((x8_1 ++ t294) ++ (⟨#[10]⟩ : ByteArray)) (wrap64 (x9_1 + 1)))) else (none)) else (none)) else (none)) else (none)) else (some true)) = some r := H
                  have A13 := Aside0.mk A130
                  clear A130
                  by_cases c14 : t296 = 0
                  · rw [if_pos c14] at H
                    have c14b0 : (t296 == 0) = true := beq_iff_eq.mpr c14
                    have c14b1 : (t296 != 0) = false := bne_eq_false_iff_eq.mpr c14
                    clear c14
                    by_cases c15 : x7_1.size + t294.size ≤ 9223372036854775807
                    · rw [if_pos c15] at H
                      have c15b0 := eq_true c15
                      have c15b1 : decide (x7_1.size + t294.size ≤ 9223372036854775807) = true := decide_eq_true c15
                      try have c15b2 : (9223372036854775807 < x7_1.size + t294.size) = False := eq_false (Nat.not_lt.2 c15)
                      by_cases c16 : (x7_1 ++ t294).size + 1 ≤ 9223372036854775807
                      · rw [if_pos c16] at H
                        have c16b0 := eq_true c16
                        have c16b1 : decide ((x7_1 ++ t294).size + 1 ≤ 9223372036854775807) = true := decide_eq_true c16
                        (try (have c16e_ : (x7_1 ++ t294).size + 1 = x7_1.size + t294.size + 1 := (by simp only [ByteArray.size_append] <;> rfl); have c16f_ : (9223372036854775807 < x7_1.size + t294.size + 1) = False := eq_false (by omega); have c16g_ : (x7_1.size + t294.size + 1 ≤ 9223372036854775807) = True := eq_true (by omega)))
                        try have c16b2 : (9223372036854775807 < (x7_1 ++ t294).size + 1) = False := eq_false (Nat.not_lt.2 c16)
                        by_cases c17 : x8_1.size + t294.size ≤ 9223372036854775807
                        · rw [if_pos c17] at H
                          have c17b0 := eq_true c17
                          have c17b1 : decide (x8_1.size + t294.size ≤ 9223372036854775807) = true := decide_eq_true c17
                          try have c17b2 : (9223372036854775807 < x8_1.size + t294.size) = False := eq_false (Nat.not_lt.2 c17)
                          by_cases c18 : (x8_1 ++ t294).size + 1 ≤ 9223372036854775807
                          · rw [if_pos c18] at H
                            have c18b0 := eq_true c18
                            have c18b1 : decide ((x8_1 ++ t294).size + 1 ≤ 9223372036854775807) = true := decide_eq_true c18
                            (try (have c18e_ : (x8_1 ++ t294).size + 1 = x8_1.size + t294.size + 1 := (by simp only [ByteArray.size_append] <;> rfl); have c18f_ : (9223372036854775807 < x8_1.size + t294.size + 1) = False := eq_false (by omega); have c18g_ : (x8_1.size + t294.size + 1 ≤ 9223372036854775807) = True := eq_true (by omega)))
                            try have c18b2 : (9223372036854775807 < (x8_1 ++ t294).size + 1) = False := eq_false (Nat.not_lt.2 c18)
                            by_cases c19 : x9_1 < (l2.length : Int)
                            · rw [if_pos c19] at H
                              have c19b0 : decide (x9_1 < (l2.length : Int)) = true := decide_eq_true c19
                              clear c19
                              obtain ⟨y299, hy299⟩ : ∃ y_ : List ByteArray, y_ = (([(⟨#[]⟩ : ByteArray), (⟨#[32, 32]⟩ : ByteArray), (⟨#[47, 47, 32, 97, 32, 114, 101, 109, 97, 114, 107, 10]⟩ : ByteArray), (⟨#[9, 13, 10]⟩ : ByteArray), (⟨#[47, 47, 10, 47, 47, 10]⟩ : ByteArray)] : List ByteArray)) := ⟨_, rfl⟩
                              replace H : ((chancellaw4_within.f (rd l2 x9_1) 5).bind fun t303 => (if 0 ≤ t303 then (if t303 < (y299.length : Int) then (if ((x8_1 ++ t294) ++ (⟨#[10]⟩ : ByteArray)).size + (rdOf ByteArray.empty y299 t303).size ≤ 9223372036854775807 then (chancellaw4_LexBlanks.l0 kj6 l0 l1 l2 ((x7_1 ++ t294) ++ (⟨#[32]⟩ : ByteArray)) (((x8_1 ++ t294) ++ (⟨#[10]⟩ : ByteArray)) ++ (rdOf ByteArray.empty y299 t303)) (wrap64 (x9_1 + 1))) else (none)) else (none)) else (none))) = some r := by first | (rw [hy299]; with_reducible exact H) | (have H2_ := (Option.bind_some _ _).symm.trans H; rw [hy299]; with_reducible exact H2_) | (have H2_ := (Option.bind_some _ _).symm.trans H; with_reducible exact H2_) | with_reducible exact H | (rw [hy299]; exact H) | exact H
                              have Ny299 := Aside0.mk hy299
                              clear hy299
                              replace H := Option.bind_eq_some_iff.mp H
                              obtain ⟨t303, A200, H⟩ := H
                              replace H : (if 0 ≤ t303 then (if t303 < (y299.length : Int) then (if ((x8_1 ++ t294) ++ (⟨#[10]⟩ : ByteArray)).size + (rdOf ByteArray.empty y299 t303).size ≤ 9223372036854775807 then (chancellaw4_LexBlanks.l0 kj6 l0 l1 l2 ((x7_1 ++ t294) ++ (⟨#[32]⟩ : ByteArray)) (((x8_1 ++ t294) ++ (⟨#[10]⟩ : ByteArray)) ++ (rdOf ByteArray.empty y299 t303)) (wrap64 (x9_1 + 1))) else (none)) else (none)) else (none)) = some r := H
                              have A20 := Aside0.mk A200
                              clear A200
                              by_cases c21 : 0 ≤ t303
                              · rw [if_pos c21] at H
                                have c21b0 : decide (0 ≤ t303) = true := decide_eq_true c21
                                clear c21
                                by_cases c22 : t303 < (y299.length : Int)
                                · rw [if_pos c22] at H
                                  have c22b0 : decide (t303 < (y299.length : Int)) = true := decide_eq_true c22
                                  clear c22
                                  by_cases c23 : ((x8_1 ++ t294) ++ (⟨#[10]⟩ : ByteArray)).size + (rdOf ByteArray.empty y299 t303).size ≤ 9223372036854775807
                                  · rw [if_pos c23] at H
                                    have c23b0 := eq_true c23
                                    have c23b1 : decide (((x8_1 ++ t294) ++ (⟨#[10]⟩ : ByteArray)).size + (rdOf ByteArray.empty y299 t303).size ≤ 9223372036854775807) = true := decide_eq_true c23
                                    (try (have c23e_ : ((x8_1 ++ t294) ++ (⟨#[10]⟩ : ByteArray)).size + (rdOf ByteArray.empty y299 t303).size = x8_1.size + t294.size + 1 + (rdOf ByteArray.empty y299 t303).size := (by simp only [ByteArray.size_append] <;> rfl); have c23f_ : (9223372036854775807 < x8_1.size + t294.size + 1 + (rdOf ByteArray.empty y299 t303).size) = False := eq_false (by omega); have c23g_ : (x8_1.size + t294.size + 1 + (rdOf ByteArray.empty y299 t303).size ≤ 9223372036854775807) = True := eq_true (by omega)))
                                    try have c23b2 : (9223372036854775807 < ((x8_1 ++ t294) ++ (⟨#[10]⟩ : ByteArray)).size + (rdOf ByteArray.empty y299 t303).size) = False := eq_false (Nat.not_lt.2 c23)
                                    have H' := Aside0.mk H
                                    clear H
                                    have p293 : 0 ≤ (x9_1 : Int) := of_decide_eq_true (by first | (with_reducible assumption) | assumption)
                                    have q293 : x9_1 < (l0.length : Int) := of_decide_eq_true (by first | (with_reducible assumption) | assumption)
                                    obtain ⟨ad293, e293, hx293_0⟩ := Kd.at_int HR0.out x9_1 p293 q293
                                    cases e293
                                    replace hx293_0 := (HB.out.cell (World.block_lt_of_cell? w _ hx293_0)).trans hx293_0
                                    replace p293 := eq_true p293
                                    replace q293 := eq_true q293
                                    go_wp2_with (first | (go_at_call 9; (with_reducible refine (chancellaw4_piece.calls kj6 (rd l0 x9_1) _ _ l1 t294 _ ?side1 ?side2 A12.out).mono ?_); (case side1 => repeat (first | exact (Kd.C_below HR1.out HB.out) | (with_reducible refine Kd.C_alloc ?_ _) | (with_reducible refine Kd.C_drewN ?_ _) | (with_reducible refine Kd.C_drew ?_))); (case side2 => exact HC1.out); rintro e w24 ⟨rfl, hb⟩; have n0_ := Aside0.mk (below_step (by repeat (first | (with_reducible first | exact HB.out | apply below_alloc | apply pw_below_drewN | apply below_drew1) | exact HB.out)) hb); clear HB; have HB := n0_; clear n0_; (try clear hb); (try clear hb2); (try clear hk); (try clear hi)) | (go_at_call 10; (with_reducible refine (chancelref4_Tokens.calls kj6 t294 t295 t296 _ A13.out).mono ?_); rintro e w25 ⟨v297, rfl, ho0, hb⟩; have n0_ := Aside0.mk (Kd.R_lower ho0 (below_size (by repeat (first | (with_reducible first | exact HB.out | apply below_alloc | apply pw_below_drewN | apply below_drew1) | exact HB.out)))); have n1_ := Aside0.mk (below_step (by repeat (first | (with_reducible first | exact HB.out | apply below_alloc | apply pw_below_drewN | apply below_drew1) | exact HB.out)) hb); clear HB; have HO298 := n0_; have HB := n1_; clear n0_ n1_; (try clear hb); (try clear hb2); (try clear hk); (try clear hi); (try clear ho0)) | ((with_reducible refine gate_dst (N := 56) rfl ?_); (try (refine gate_guard (by rfl) ?_; dsimp only)); refine Kd.R_lit Kd.string _ 9 ?hg (N := 56) ?hd (xs := ([(⟨#[]⟩ : ByteArray), (⟨#[32, 32]⟩ : ByteArray), (⟨#[47, 47, 32, 97, 32, 114, 101, 109, 97, 114, 107, 10]⟩ : ByteArray), (⟨#[9, 13, 10]⟩ : ByteArray), (⟨#[47, 47, 10, 47, 47, 10]⟩ : ByteArray)] : List ByteArray)) (inner := [.string (⟨#[]⟩ : ByteArray), .string (⟨#[32, 32]⟩ : ByteArray), .string (⟨#[47, 47, 32, 97, 32, 114, 101, 109, 97, 114, 107, 10]⟩ : ByteArray), .string (⟨#[9, 13, 10]⟩ : ByteArray), .string (⟨#[47, 47, 10, 47, 47, 10]⟩ : ByteArray)]) (ok := fun _ => True) (okp := fun _ => True) ?hr ?hp (fun _ hk => hk) trivial (Below.refl _ _) (Nat.le_refl _) (by simp) ?_; (case hd => rfl); (case hg => rfl); (case hr => first | (go_simp; done) | (go_simp; rfl)); (case hp => exact (Reps.one (show Kd.M Kd.string _ _ _ (⟨#[]⟩ : ByteArray) [.string (⟨#[]⟩ : ByteArray)] from rfl) (Reps.one (show Kd.M Kd.string _ _ _ (⟨#[32, 32]⟩ : ByteArray) [.string (⟨#[32, 32]⟩ : ByteArray)] from rfl) (Reps.one (show Kd.M Kd.string _ _ _ (⟨#[47, 47, 32, 97, 32, 114, 101, 109, 97, 114, 107, 10]⟩ : ByteArray) [.string (⟨#[47, 47, 32, 97, 32, 114, 101, 109, 97, 114, 107, 10]⟩ : ByteArray)] from rfl) (Reps.one (show Kd.M Kd.string _ _ _ (⟨#[9, 13, 10]⟩ : ByteArray) [.string (⟨#[9, 13, 10]⟩ : ByteArray)] from rfl) (Reps.one (show Kd.M Kd.string _ _ _ (⟨#[47, 47, 10, 47, 47, 10]⟩ : ByteArray) [.string (⟨#[47, 47, 10, 47, 47, 10]⟩ : ByteArray)] from rfl) (Reps.none _ _))))))); intro v300 w26 ho27 hb hg_ hnew_; clear hg_ hnew_; (first | rw [← Ny299.out] at ho27 | (simp only [Int.reduceToNat] at ho27; rw [← Ny299.out] at ho27)); have n0_ := Aside0.mk (Kd.R_below (by (with_reducible repeat (first | apply Kd.R_alloc | apply Kd.R_drewN | apply Kd.R_drew)); exact HO298.out) hb); have n1_ := Aside0.mk (Kd.R_lower ho27 (below_size (by repeat (first | (with_reducible first | exact HB.out | apply below_alloc | apply pw_below_drewN | apply below_drew1) | exact HB.out)))); have n2_ := Aside0.mk (below_step (by repeat (first | (with_reducible first | exact HB.out | apply below_alloc | apply pw_below_drewN | apply below_drew1) | exact HB.out)) hb); clear HO298; clear HB; have HO298 := n0_; have HO301 := n1_; have HB := n2_; clear n0_ n1_ n2_; clear hb ho27; have p302 : 0 ≤ (x9_1 : Int) := of_decide_eq_true (by first | (with_reducible assumption) | assumption); have q302 : x9_1 < (l2.length : Int) := of_decide_eq_true (by first | (with_reducible assumption) | assumption); obtain ⟨ad302, e302, hx302_0⟩ := Kd.at_int HR2.out x9_1 p302 q302; cases e302; replace hx302_0 := (HB.out.cell (World.block_lt_of_cell? w _ hx302_0)).trans hx302_0; replace p302 := eq_true p302; replace q302 := eq_true q302) | (go_at_call 11; (with_reducible refine (chancellaw4_within.calls (rd l2 x9_1) 5 t303 _ A20.out).mono ?_); rintro e w' ⟨rfl, ⟨nd, rfl⟩⟩; (try first | exact ⟨rfl, _, World.drewN_drewN _ _ _⟩ | exact ⟨rfl, _, Eq.trans (World.drewN_drewN _ _ _) (congrArg (World.drewN _) (Nat.add_assoc _ _ _))⟩); obtain ⟨Ao28, co28, eo28⟩ := Kd.R_slice HO301.out; subst eo28; have p304 : 0 ≤ (t303 : Int) := of_decide_eq_true (by first | (with_reducible assumption) | assumption); have q304 : t303 < (y299.length : Int) := of_decide_eq_true (by first | (with_reducible assumption) | assumption); obtain ⟨ad304, e304, hx304_0⟩ := Kd.at_string (Kd.R_reads' HO301.out).2.2 t303 p304 q304; cases e304; replace p304 := eq_true p304; replace q304 := eq_true q304))
                                    repeat (go_quiet (first | (go_at_call 9; (with_reducible refine (chancellaw4_piece.calls kj6 (rd l0 x9_1) _ _ l1 t294 _ ?side1 ?side2 A12.out).mono ?_); (case side1 => repeat (first | exact (Kd.C_below HR1.out HB.out) | (with_reducible refine Kd.C_alloc ?_ _) | (with_reducible refine Kd.C_drewN ?_ _) | (with_reducible refine Kd.C_drew ?_))); (case side2 => exact HC1.out); rintro e w24 ⟨rfl, hb⟩; have n0_ := Aside0.mk (below_step (by repeat (first | (with_reducible first | exact HB.out | apply below_alloc | apply pw_below_drewN | apply below_drew1) | exact HB.out)) hb); clear HB; have HB := n0_; clear n0_; (try clear hb); (try clear hb2); (try clear hk); (try clear hi)) | (go_at_call 10; (with_reducible refine (chancelref4_Tokens.calls kj6 t294 t295 t296 _ A13.out).mono ?_); rintro e w25 ⟨v297, rfl, ho0, hb⟩; have n0_ := Aside0.mk (Kd.R_lower ho0 (below_size (by repeat (first | (with_reducible first | exact HB.out | apply below_alloc | apply pw_below_drewN | apply below_drew1) | exact HB.out)))); have n1_ := Aside0.mk (below_step (by repeat (first | (with_reducible first | exact HB.out | apply below_alloc | apply pw_below_drewN | apply below_drew1) | exact HB.out)) hb); clear HB; have HO298 := n0_; have HB := n1_; clear n0_ n1_; (try clear hb); (try clear hb2); (try clear hk); (try clear hi); (try clear ho0)) | ((with_reducible refine gate_dst (N := 56) rfl ?_); (try (refine gate_guard (by rfl) ?_; dsimp only)); refine Kd.R_lit Kd.string _ 9 ?hg (N := 56) ?hd (xs := ([(⟨#[]⟩ : ByteArray), (⟨#[32, 32]⟩ : ByteArray), (⟨#[47, 47, 32, 97, 32, 114, 101, 109, 97, 114, 107, 10]⟩ : ByteArray), (⟨#[9, 13, 10]⟩ : ByteArray), (⟨#[47, 47, 10, 47, 47, 10]⟩ : ByteArray)] : List ByteArray)) (inner := [.string (⟨#[]⟩ : ByteArray), .string (⟨#[32, 32]⟩ : ByteArray), .string (⟨#[47, 47, 32, 97, 32, 114, 101, 109, 97, 114, 107, 10]⟩ : ByteArray), .string (⟨#[9, 13, 10]⟩ : ByteArray), .string (⟨#[47, 47, 10, 47, 47, 10]⟩ : ByteArray)]) (ok := fun _ => True) (okp := fun _ => True) ?hr ?hp (fun _ hk => hk) trivial (Below.refl _ _) (Nat.le_refl _) (by simp) ?_; (case hd => rfl); (case hg => rfl); (case hr => first | (go_simp; done) | (go_simp; rfl)); (case hp => exact (Reps.one (show Kd.M Kd.string _ _ _ (⟨#[]⟩ : ByteArray) [.string (⟨#[]⟩ : ByteArray)] from rfl) (Reps.one (show Kd.M Kd.string _ _ _ (⟨#[32, 32]⟩ : ByteArray) [.string (⟨#[32, 32]⟩ : ByteArray)] from rfl) (Reps.one (show Kd.M Kd.string _ _ _ (⟨#[47, 47, 32, 97, 32, 114, 101, 109, 97, 114, 107, 10]⟩ : ByteArray) [.string (⟨#[47, 47, 32, 97, 32, 114, 101, 109, 97, 114, 107, 10]⟩ : ByteArray)] from rfl) (Reps.one (show Kd.M Kd.string _ _ _ (⟨#[9, 13, 10]⟩ : ByteArray) [.string (⟨#[9, 13, 10]⟩ : ByteArray)] from rfl) (Reps.one (show Kd.M Kd.string _ _ _ (⟨#[47, 47, 10, 47, 47, 10]⟩ : ByteArray) [.string (⟨#[47, 47, 10, 47, 47, 10]⟩ : ByteArray)] from rfl) (Reps.none _ _))))))); intro v300 w26 ho27 hb hg_ hnew_; clear hg_ hnew_; (first | rw [← Ny299.out] at ho27 | (simp only [Int.reduceToNat] at ho27; rw [← Ny299.out] at ho27)); have n0_ := Aside0.mk (Kd.R_below (by (with_reducible repeat (first | apply Kd.R_alloc | apply Kd.R_drewN | apply Kd.R_drew)); exact HO298.out) hb); have n1_ := Aside0.mk (Kd.R_lower ho27 (below_size (by repeat (first | (with_reducible first | exact HB.out | apply below_alloc | apply pw_below_drewN | apply below_drew1) | exact HB.out)))); have n2_ := Aside0.mk (below_step (by repeat (first | (with_reducible first | exact HB.out | apply below_alloc | apply pw_below_drewN | apply below_drew1) | exact HB.out)) hb); clear HO298; clear HB; have HO298 := n0_; have HO301 := n1_; have HB := n2_; clear n0_ n1_ n2_; clear hb ho27; have p302 : 0 ≤ (x9_1 : Int) := of_decide_eq_true (by first | (with_reducible assumption) | assumption); have q302 : x9_1 < (l2.length : Int) := of_decide_eq_true (by first | (with_reducible assumption) | assumption); obtain ⟨ad302, e302, hx302_0⟩ := Kd.at_int HR2.out x9_1 p302 q302; cases e302; replace hx302_0 := (HB.out.cell (World.block_lt_of_cell? w _ hx302_0)).trans hx302_0; replace p302 := eq_true p302; replace q302 := eq_true q302) | (go_at_call 11; (with_reducible refine (chancellaw4_within.calls (rd l2 x9_1) 5 t303 _ A20.out).mono ?_); rintro e w' ⟨rfl, ⟨nd, rfl⟩⟩; (try first | exact ⟨rfl, _, World.drewN_drewN _ _ _⟩ | exact ⟨rfl, _, Eq.trans (World.drewN_drewN _ _ _) (congrArg (World.drewN _) (Nat.add_assoc _ _ _))⟩); clear A20; obtain ⟨Ao28, co28, eo28⟩ := Kd.R_slice HO301.out; subst eo28; have p304 : 0 ≤ (t303 : Int) := of_decide_eq_true (by first | (with_reducible assumption) | assumption); have q304 : t303 < (y299.length : Int) := of_decide_eq_true (by first | (with_reducible assumption) | assumption); obtain ⟨ad304, e304, hx304_0⟩ := Kd.at_string (Kd.R_reads' HO301.out).2.2 t303 p304 q304; cases e304; replace p304 := eq_true p304; replace q304 := eq_true q304)); try go_wp2_with (first | (go_at_call 9; (with_reducible refine (chancellaw4_piece.calls kj6 (rd l0 x9_1) _ _ l1 t294 _ ?side1 ?side2 A12.out).mono ?_); (case side1 => repeat (first | exact (Kd.C_below HR1.out HB.out) | (with_reducible refine Kd.C_alloc ?_ _) | (with_reducible refine Kd.C_drewN ?_ _) | (with_reducible refine Kd.C_drew ?_))); (case side2 => exact HC1.out); rintro e w24 ⟨rfl, hb⟩; have n0_ := Aside0.mk (below_step (by repeat (first | (with_reducible first | exact HB.out | apply below_alloc | apply pw_below_drewN | apply below_drew1) | exact HB.out)) hb); clear HB; have HB := n0_; clear n0_; (try clear hb); (try clear hb2); (try clear hk); (try clear hi)) | (go_at_call 10; (with_reducible refine (chancelref4_Tokens.calls kj6 t294 t295 t296 _ A13.out).mono ?_); rintro e w25 ⟨v297, rfl, ho0, hb⟩; have n0_ := Aside0.mk (Kd.R_lower ho0 (below_size (by repeat (first | (with_reducible first | exact HB.out | apply below_alloc | apply pw_below_drewN | apply below_drew1) | exact HB.out)))); have n1_ := Aside0.mk (below_step (by repeat (first | (with_reducible first | exact HB.out | apply below_alloc | apply pw_below_drewN | apply below_drew1) | exact HB.out)) hb); clear HB; have HO298 := n0_; have HB := n1_; clear n0_ n1_; (try clear hb); (try clear hb2); (try clear hk); (try clear hi); (try clear ho0)) | ((with_reducible refine gate_dst (N := 56) rfl ?_); (try (refine gate_guard (by rfl) ?_; dsimp only)); refine Kd.R_lit Kd.string _ 9 ?hg (N := 56) ?hd (xs := ([(⟨#[]⟩ : ByteArray), (⟨#[32, 32]⟩ : ByteArray), (⟨#[47, 47, 32, 97, 32, 114, 101, 109, 97, 114, 107, 10]⟩ : ByteArray), (⟨#[9, 13, 10]⟩ : ByteArray), (⟨#[47, 47, 10, 47, 47, 10]⟩ : ByteArray)] : List ByteArray)) (inner := [.string (⟨#[]⟩ : ByteArray), .string (⟨#[32, 32]⟩ : ByteArray), .string (⟨#[47, 47, 32, 97, 32, 114, 101, 109, 97, 114, 107, 10]⟩ : ByteArray), .string (⟨#[9, 13, 10]⟩ : ByteArray), .string (⟨#[47, 47, 10, 47, 47, 10]⟩ : ByteArray)]) (ok := fun _ => True) (okp := fun _ => True) ?hr ?hp (fun _ hk => hk) trivial (Below.refl _ _) (Nat.le_refl _) (by simp) ?_; (case hd => rfl); (case hg => rfl); (case hr => first | (go_simp; done) | (go_simp; rfl)); (case hp => exact (Reps.one (show Kd.M Kd.string _ _ _ (⟨#[]⟩ : ByteArray) [.string (⟨#[]⟩ : ByteArray)] from rfl) (Reps.one (show Kd.M Kd.string _ _ _ (⟨#[32, 32]⟩ : ByteArray) [.string (⟨#[32, 32]⟩ : ByteArray)] from rfl) (Reps.one (show Kd.M Kd.string _ _ _ (⟨#[47, 47, 32, 97, 32, 114, 101, 109, 97, 114, 107, 10]⟩ : ByteArray) [.string (⟨#[47, 47, 32, 97, 32, 114, 101, 109, 97, 114, 107, 10]⟩ : ByteArray)] from rfl) (Reps.one (show Kd.M Kd.string _ _ _ (⟨#[9, 13, 10]⟩ : ByteArray) [.string (⟨#[9, 13, 10]⟩ : ByteArray)] from rfl) (Reps.one (show Kd.M Kd.string _ _ _ (⟨#[47, 47, 10, 47, 47, 10]⟩ : ByteArray) [.string (⟨#[47, 47, 10, 47, 47, 10]⟩ : ByteArray)] from rfl) (Reps.none _ _))))))); intro v300 w26 ho27 hb hg_ hnew_; clear hg_ hnew_; (first | rw [← Ny299.out] at ho27 | (simp only [Int.reduceToNat] at ho27; rw [← Ny299.out] at ho27)); have n0_ := Aside0.mk (Kd.R_below (by (with_reducible repeat (first | apply Kd.R_alloc | apply Kd.R_drewN | apply Kd.R_drew)); exact HO298.out) hb); have n1_ := Aside0.mk (Kd.R_lower ho27 (below_size (by repeat (first | (with_reducible first | exact HB.out | apply below_alloc | apply pw_below_drewN | apply below_drew1) | exact HB.out)))); have n2_ := Aside0.mk (below_step (by repeat (first | (with_reducible first | exact HB.out | apply below_alloc | apply pw_below_drewN | apply below_drew1) | exact HB.out)) hb); clear HO298; clear HB; have HO298 := n0_; have HO301 := n1_; have HB := n2_; clear n0_ n1_ n2_; clear hb ho27; have p302 : 0 ≤ (x9_1 : Int) := of_decide_eq_true (by first | (with_reducible assumption) | assumption); have q302 : x9_1 < (l2.length : Int) := of_decide_eq_true (by first | (with_reducible assumption) | assumption); obtain ⟨ad302, e302, hx302_0⟩ := Kd.at_int HR2.out x9_1 p302 q302; cases e302; replace hx302_0 := (HB.out.cell (World.block_lt_of_cell? w _ hx302_0)).trans hx302_0; replace p302 := eq_true p302; replace q302 := eq_true q302) | (go_at_call 11; (with_reducible refine (chancellaw4_within.calls (rd l2 x9_1) 5 t303 _ A20.out).mono ?_); rintro e w' ⟨rfl, ⟨nd, rfl⟩⟩; (try first | exact ⟨rfl, _, World.drewN_drewN _ _ _⟩ | exact ⟨rfl, _, Eq.trans (World.drewN_drewN _ _ _) (congrArg (World.drewN _) (Nat.add_assoc _ _ _))⟩); obtain ⟨Ao28, co28, eo28⟩ := Kd.R_slice HO301.out; subst eo28; have p304 : 0 ≤ (t303 : Int) := of_decide_eq_true (by first | (with_reducible assumption) | assumption); have q304 : t303 < (y299.length : Int) := of_decide_eq_true (by first | (with_reducible assumption) | assumption); obtain ⟨ad304, e304, hx304_0⟩ := Kd.at_string (Kd.R_reads' HO301.out).2.2 t303 p304 q304; cases e304; replace p304 := eq_true p304; replace q304 := eq_true q304)))
                                    go_roundg kj6
                                    case measure => have := HK1.out; have := HJ6.out; omega
                                    case rel => exact ⟨((x7_1 ++ t294) ++ (⟨#[32]⟩ : ByteArray)), (((x8_1 ++ t294) ++ (⟨#[10]⟩ : ByteArray)) ++ (rdOf ByteArray.empty y299 t303)), (wrap64 (x9_1 + 1)), (by first | rfl | (simp; done) | (simp [*]; done)), (by first | rfl | (simp; done) | (simp [*]; done)), (by first | rfl | (simp; done) | (simp [*]; done)), H', ⟨by have := HK1.out; have := HJ6.out; omega⟩, ⟨by repeat (first | (with_reducible first | exact HB.out | apply below_alloc | apply pw_below_drewN | apply below_drew1) | exact HB.out)⟩⟩
                                  · rw [if_neg c23] at H
                                    exact absurd H (by simp)
                                · rw [if_neg c22] at H
                                  exact absurd H (by simp)
                              · rw [if_neg c21] at H
                                exact absurd H (by simp)
                            · rw [if_neg c19] at H
                              have c19b0 : decide (x9_1 < (l2.length : Int)) = false := decide_eq_false c19
                              clear c19
                              have H' := Aside0.mk H
                              clear H
                              have p293 : 0 ≤ (x9_1 : Int) := of_decide_eq_true (by first | (with_reducible assumption) | assumption)
                              have q293 : x9_1 < (l0.length : Int) := of_decide_eq_true (by first | (with_reducible assumption) | assumption)
                              obtain ⟨ad293, e293, hx293_0⟩ := Kd.at_int HR0.out x9_1 p293 q293
                              cases e293
                              replace hx293_0 := (HB.out.cell (World.block_lt_of_cell? w _ hx293_0)).trans hx293_0
                              replace p293 := eq_true p293
                              replace q293 := eq_true q293
                              go_wp2_with (first | (go_at_call 9; (with_reducible refine (chancellaw4_piece.calls kj6 (rd l0 x9_1) _ _ l1 t294 _ ?side1 ?side2 A12.out).mono ?_); (case side1 => repeat (first | exact (Kd.C_below HR1.out HB.out) | (with_reducible refine Kd.C_alloc ?_ _) | (with_reducible refine Kd.C_drewN ?_ _) | (with_reducible refine Kd.C_drew ?_))); (case side2 => exact HC1.out); rintro e w29 ⟨rfl, hb⟩; have n0_ := Aside0.mk (below_step (by repeat (first | (with_reducible first | exact HB.out | apply below_alloc | apply pw_below_drewN | apply below_drew1) | exact HB.out)) hb); clear HB; have HB := n0_; clear n0_; (try clear hb); (try clear hb2); (try clear hk); (try clear hi)) | (go_at_call 10; (with_reducible refine (chancelref4_Tokens.calls kj6 t294 t295 t296 _ A13.out).mono ?_); rintro e w30 ⟨v297, rfl, ho0, hb⟩; have n0_ := Aside0.mk (Kd.R_lower ho0 (below_size (by repeat (first | (with_reducible first | exact HB.out | apply below_alloc | apply pw_below_drewN | apply below_drew1) | exact HB.out)))); have n1_ := Aside0.mk (below_step (by repeat (first | (with_reducible first | exact HB.out | apply below_alloc | apply pw_below_drewN | apply below_drew1) | exact HB.out)) hb); clear HB; have HO298 := n0_; have HB := n1_; clear n0_ n1_; (try clear hb); (try clear hb2); (try clear hk); (try clear hi); (try clear ho0)))
                              repeat (go_quiet (first | (go_at_call 9; (with_reducible refine (chancellaw4_piece.calls kj6 (rd l0 x9_1) _ _ l1 t294 _ ?side1 ?side2 A12.out).mono ?_); (case side1 => repeat (first | exact (Kd.C_below HR1.out HB.out) | (with_reducible refine Kd.C_alloc ?_ _) | (with_reducible refine Kd.C_drewN ?_ _) | (with_reducible refine Kd.C_drew ?_))); (case side2 => exact HC1.out); rintro e w29 ⟨rfl, hb⟩; have n0_ := Aside0.mk (below_step (by repeat (first | (with_reducible first | exact HB.out | apply below_alloc | apply pw_below_drewN | apply below_drew1) | exact HB.out)) hb); clear HB; have HB := n0_; clear n0_; (try clear hb); (try clear hb2); (try clear hk); (try clear hi)) | (go_at_call 10; (with_reducible refine (chancelref4_Tokens.calls kj6 t294 t295 t296 _ A13.out).mono ?_); rintro e w30 ⟨v297, rfl, ho0, hb⟩; have n0_ := Aside0.mk (Kd.R_lower ho0 (below_size (by repeat (first | (with_reducible first | exact HB.out | apply below_alloc | apply pw_below_drewN | apply below_drew1) | exact HB.out)))); have n1_ := Aside0.mk (below_step (by repeat (first | (with_reducible first | exact HB.out | apply below_alloc | apply pw_below_drewN | apply below_drew1) | exact HB.out)) hb); clear HB; have HO298 := n0_; have HB := n1_; clear n0_ n1_; (try clear hb); (try clear hb2); (try clear hk); (try clear hi); (try clear ho0))); try go_wp2_with (first | (go_at_call 9; (with_reducible refine (chancellaw4_piece.calls kj6 (rd l0 x9_1) _ _ l1 t294 _ ?side1 ?side2 A12.out).mono ?_); (case side1 => repeat (first | exact (Kd.C_below HR1.out HB.out) | (with_reducible refine Kd.C_alloc ?_ _) | (with_reducible refine Kd.C_drewN ?_ _) | (with_reducible refine Kd.C_drew ?_))); (case side2 => exact HC1.out); rintro e w29 ⟨rfl, hb⟩; have n0_ := Aside0.mk (below_step (by repeat (first | (with_reducible first | exact HB.out | apply below_alloc | apply pw_below_drewN | apply below_drew1) | exact HB.out)) hb); clear HB; have HB := n0_; clear n0_; (try clear hb); (try clear hb2); (try clear hk); (try clear hi)) | (go_at_call 10; (with_reducible refine (chancelref4_Tokens.calls kj6 t294 t295 t296 _ A13.out).mono ?_); rintro e w30 ⟨v297, rfl, ho0, hb⟩; have n0_ := Aside0.mk (Kd.R_lower ho0 (below_size (by repeat (first | (with_reducible first | exact HB.out | apply below_alloc | apply pw_below_drewN | apply below_drew1) | exact HB.out)))); have n1_ := Aside0.mk (below_step (by repeat (first | (with_reducible first | exact HB.out | apply below_alloc | apply pw_below_drewN | apply below_drew1) | exact HB.out)) hb); clear HB; have HO298 := n0_; have HB := n1_; clear n0_ n1_; (try clear hb); (try clear hb2); (try clear hk); (try clear hi); (try clear ho0))))
                              go_roundg kj6
                              case measure => have := HK1.out; have := HJ6.out; omega
                              case rel => exact ⟨((x7_1 ++ t294) ++ (⟨#[32]⟩ : ByteArray)), ((x8_1 ++ t294) ++ (⟨#[10]⟩ : ByteArray)), (wrap64 (x9_1 + 1)), (by first | rfl | (simp; done) | (simp [*]; done)), (by first | rfl | (simp; done) | (simp [*]; done)), (by first | rfl | (simp; done) | (simp [*]; done)), H', ⟨by have := HK1.out; have := HJ6.out; omega⟩, ⟨by repeat (first | (with_reducible first | exact HB.out | apply below_alloc | apply pw_below_drewN | apply below_drew1) | exact HB.out)⟩⟩
                          · rw [if_neg c18] at H
                            exact absurd H (by simp)
                        · rw [if_neg c17] at H
                          exact absurd H (by simp)
                      · rw [if_neg c16] at H
                        exact absurd H (by simp)
                    · rw [if_neg c15] at H
                      exact absurd H (by simp)
                  · rw [if_neg c14] at H
                    have c14b0 : (t296 == 0) = false := beq_eq_false_iff_ne.mpr c14
                    have c14b1 : (t296 != 0) = true := bne_iff_ne.mpr c14
                    obtain rfl := Option.some.inj H
                    have p293 : 0 ≤ (x9_1 : Int) := of_decide_eq_true (by first | (with_reducible assumption) | assumption)
                    have q293 : x9_1 < (l0.length : Int) := of_decide_eq_true (by first | (with_reducible assumption) | assumption)
                    obtain ⟨ad293, e293, hx293_0⟩ := Kd.at_int HR0.out x9_1 p293 q293
                    cases e293
                    replace hx293_0 := (HB.out.cell (World.block_lt_of_cell? w _ hx293_0)).trans hx293_0
                    replace p293 := eq_true p293
                    replace q293 := eq_true q293
                    go_wp2_with (first | (go_at_call 9; (with_reducible refine (chancellaw4_piece.calls kj6 (rd l0 x9_1) _ _ l1 t294 _ ?side1 ?side2 A12.out).mono ?_); (case side1 => repeat (first | exact (Kd.C_below HR1.out HB.out) | (with_reducible refine Kd.C_alloc ?_ _) | (with_reducible refine Kd.C_drewN ?_ _) | (with_reducible refine Kd.C_drew ?_))); (case side2 => exact HC1.out); rintro e w31 ⟨rfl, hb⟩; have n0_ := Aside0.mk (below_step (by repeat (first | (with_reducible first | exact HB.out | apply below_alloc | apply pw_below_drewN | apply below_drew1) | exact HB.out)) hb); clear HB; have HB := n0_; clear n0_; (try clear hb); (try clear hb2); (try clear hk); (try clear hi)) | (go_at_call 10; (with_reducible refine (chancelref4_Tokens.calls kj6 t294 t295 t296 _ A13.out).mono ?_); rintro e w32 ⟨v297, rfl, ho0, hb⟩; have n0_ := Aside0.mk (Kd.R_lower ho0 (below_size (by repeat (first | (with_reducible first | exact HB.out | apply below_alloc | apply pw_below_drewN | apply below_drew1) | exact HB.out)))); have n1_ := Aside0.mk (below_step (by repeat (first | (with_reducible first | exact HB.out | apply below_alloc | apply pw_below_drewN | apply below_drew1) | exact HB.out)) hb); clear HB; have HO298 := n0_; have HB := n1_; clear n0_ n1_; (try clear hb); (try clear hb2); (try clear hk); (try clear hi); (try clear ho0)))
                    repeat (go_quiet (first | (go_at_call 9; (with_reducible refine (chancellaw4_piece.calls kj6 (rd l0 x9_1) _ _ l1 t294 _ ?side1 ?side2 A12.out).mono ?_); (case side1 => repeat (first | exact (Kd.C_below HR1.out HB.out) | (with_reducible refine Kd.C_alloc ?_ _) | (with_reducible refine Kd.C_drewN ?_ _) | (with_reducible refine Kd.C_drew ?_))); (case side2 => exact HC1.out); rintro e w31 ⟨rfl, hb⟩; have n0_ := Aside0.mk (below_step (by repeat (first | (with_reducible first | exact HB.out | apply below_alloc | apply pw_below_drewN | apply below_drew1) | exact HB.out)) hb); clear HB; have HB := n0_; clear n0_; (try clear hb); (try clear hb2); (try clear hk); (try clear hi)) | (go_at_call 10; (with_reducible refine (chancelref4_Tokens.calls kj6 t294 t295 t296 _ A13.out).mono ?_); rintro e w32 ⟨v297, rfl, ho0, hb⟩; have n0_ := Aside0.mk (Kd.R_lower ho0 (below_size (by repeat (first | (with_reducible first | exact HB.out | apply below_alloc | apply pw_below_drewN | apply below_drew1) | exact HB.out)))); have n1_ := Aside0.mk (below_step (by repeat (first | (with_reducible first | exact HB.out | apply below_alloc | apply pw_below_drewN | apply below_drew1) | exact HB.out)) hb); clear HB; have HO298 := n0_; have HB := n1_; clear n0_ n1_; (try clear hb); (try clear hb2); (try clear hk); (try clear hi); (try clear ho0))); try go_wp2_with (first | (go_at_call 9; (with_reducible refine (chancellaw4_piece.calls kj6 (rd l0 x9_1) _ _ l1 t294 _ ?side1 ?side2 A12.out).mono ?_); (case side1 => repeat (first | exact (Kd.C_below HR1.out HB.out) | (with_reducible refine Kd.C_alloc ?_ _) | (with_reducible refine Kd.C_drewN ?_ _) | (with_reducible refine Kd.C_drew ?_))); (case side2 => exact HC1.out); rintro e w31 ⟨rfl, hb⟩; have n0_ := Aside0.mk (below_step (by repeat (first | (with_reducible first | exact HB.out | apply below_alloc | apply pw_below_drewN | apply below_drew1) | exact HB.out)) hb); clear HB; have HB := n0_; clear n0_; (try clear hb); (try clear hb2); (try clear hk); (try clear hi)) | (go_at_call 10; (with_reducible refine (chancelref4_Tokens.calls kj6 t294 t295 t296 _ A13.out).mono ?_); rintro e w32 ⟨v297, rfl, ho0, hb⟩; have n0_ := Aside0.mk (Kd.R_lower ho0 (below_size (by repeat (first | (with_reducible first | exact HB.out | apply below_alloc | apply pw_below_drewN | apply below_drew1) | exact HB.out)))); have n1_ := Aside0.mk (below_step (by repeat (first | (with_reducible first | exact HB.out | apply below_alloc | apply pw_below_drewN | apply below_drew1) | exact HB.out)) hb); clear HB; have HO298 := n0_; have HB := n1_; clear n0_ n1_; (try clear hb); (try clear hb2); (try clear hk); (try clear hi); (try clear ho0))))
                    go_ret
                    exact ⟨by first | rfl | (simp [errW_none, errW_some] <;> rfl) | (simp [*, errW_none, errW_some] <;> rfl), by repeat (first | (with_reducible first | exact HB.out | apply below_alloc | apply pw_below_drewN | apply below_drew1) | exact HB.out)⟩
                · rw [if_neg c11] at H
                  exact absurd H (by simp)
              · rw [if_neg c10] at H
                exact absurd H (by simp)
            · replace c9 := Bool.eq_false_iff.mpr c9
              subst c9
              have H1 : (if (x7_1.size : Int) > 600 then (chancellaw4_LexBlanks.j2 kj6 x7_1 x8_1 true) else (chancellaw4_LexBlanks.j2 kj6 x7_1 x8_1 (decide ((x8_1.size : Int) > 600)))) = some r := by rw [if_neg (show ¬ (false = true) by decide)] at H; exact H
              clear H
              have H := H1
              clear H1
              have HC33 := Aside0.mk H
              clear H
              go_upto_region 15 with (fail)
              repeat (go_quiet (fail); go_upto_region 15 with (fail))
              go_cut [72] (fun v72 wc => ∃ (kq : Nat) (x72_32 : Bool), v72 = .bool x72_32 ∧ Aside0 (chancellaw4_LexBlanks.j2 kq x7_1 x8_1 x72_32 = some r) ∧ Aside0 (kq ≤ kj6) ∧ Aside0 (Below w.heap.size w wc))
              case first =>
                have H := HC33.out
                clear HC33
                by_cases c34 : (x7_1.size : Int) > 600
                · rw [if_pos c34] at H
                  have c34b0 : decide (600 < (x7_1.size : Int)) = true := decide_eq_true c34
                  have c34b1 : decide (600 < x7_1.size) = true := decide_eq_true (by omega)
                  clear c34
                  (first | rw [c34b0] | (simp only [i64_w, i32_w]; rw [c34b0]) | skip)
                  have H' := Aside0.mk H
                  clear H
                  go_wp2
                  repeat (go_quiet (fail); try go_wp2)
                  go_meet
                  case rel => exact ⟨_, (true), (by first | rfl | (simp; done) | (simp [*]; done)), H', ⟨by have := HK1.out; have := HJ6.out; first | omega | exact Nat.le_refl _⟩, ⟨by repeat (first | (with_reducible first | exact HB.out | apply below_alloc | apply pw_below_drewN | apply below_drew1) | exact HB.out)⟩⟩
                · rw [if_neg c34] at H
                  have c34b0 : decide (600 < (x7_1.size : Int)) = false := decide_eq_false c34
                  have c34b1 : decide (600 < x7_1.size) = false := decide_eq_false (by omega)
                  clear c34
                  (first | rw [c34b0] | (simp only [i64_w, i32_w]; rw [c34b0]) | skip)
                  have H' := Aside0.mk H
                  clear H
                  go_wp2
                  repeat (go_quiet (fail); try go_wp2)
                  go_meet
                  case rel => exact ⟨_, (decide ((x8_1.size : Int) > 600)), (by first | rfl | (simp; done) | (simp [*]; done)), H', ⟨by have := HK1.out; have := HJ6.out; first | omega | exact Nat.le_refl _⟩, ⟨by repeat (first | (with_reducible first | exact HB.out | apply below_alloc | apply pw_below_drewN | apply below_drew1) | exact HB.out)⟩⟩
              case rest =>
                clear HC33
                try clear c1
                try clear c2
                try clear p2
                try clear q2
                try clear hx2
                try clear c3
                try clear p3
                try clear q3
                try clear hx3
                try clear c5
                try clear p6
                try clear c8
                try clear c8b0
                try clear c9
                try clear c10
                try clear c10b0
                try clear c11
                try clear c11b0
                try clear c14
                try clear c14b0
                try clear c14b1
                try clear c15
                try clear c15b0
                try clear c15b1
                try clear c15b2
                try clear c16
                try clear c16b0
                try clear c16b1
                try clear c16b2
                try clear c17
                try clear c17b0
                try clear c17b1
                try clear c17b2
                try clear c18
                try clear c18b0
                try clear c18b1
                try clear c18b2
                try clear c19
                try clear c19b0
                try clear c21
                try clear c21b0
                try clear c22
                try clear c22b0
                try clear c23
                try clear c23b0
                try clear c23b1
                try clear c23b2
                try clear p29
                try clear q29
                try clear hx29
                try clear p30
                try clear q30
                try clear hx30
                try clear c34
                try clear c34b0
                try clear c34b1
                try clear hx293_0
                try clear hx302_0
                try clear hx304_0
                try clear p2
                try clear p293
                try clear p302
                try clear p304
                try clear q293
                try clear q302
                try clear q304
                obtain ⟨kq, x72_32, rfl, HA, HJ32, HB⟩ := hcut
                cases kq with
                | zero => exact absurd HA.out (by simp [chancellaw4_LexBlanks.j2])
                | succ kj32 =>
                  have H := HA.out
                  clear HA
                  simp only [chancellaw4_LexBlanks.j2] at H
                  by_cases c35 : x72_32 = true
                  · subst c35
                    have H1 : (some true) = some r := by rw [if_pos rfl] at H; exact H
                    clear H
                    have H := H1
                    clear H1
                    obtain rfl := Option.some.inj H
                    go_wp2
                    repeat (go_quiet (fail); try go_wp2)
                    go_ret
                    exact ⟨by first | rfl | (simp [errW_none, errW_some] <;> rfl) | (simp [*, errW_none, errW_some] <;> rfl), by repeat (first | (with_reducible first | exact HB.out | apply below_alloc | apply pw_below_drewN | apply below_drew1) | exact HB.out)⟩
                  · replace c35 := Bool.eq_false_iff.mpr c35
                    subst c35
                    have H1 : ((lex_Tokens.f kj32 x7_1).bind fun bt305 => ((lex_Tokens.f kj32 x8_1).bind fun bt309 => (if bt305.2 = 0 then (if bt309.2 = 0 then (chancellaw4_LexBlanks.j3 kj32 bt305.1 bt309.1 ((bt305.1.length : Int) != (bt309.1.length : Int))) else (chancellaw4_LexBlanks.j3 kj32 bt305.1 bt309.1 true)) else (chancellaw4_LexBlanks.j3 kj32 bt305.1 bt309.1 true)))) = some r := by rw [if_neg (show ¬ (false = true) by decide)] at H; exact H
                    clear H
                    have H := H1
                    clear H1
                    replace H := Option.bind_eq_some_iff.mp H
                    obtain ⟨⟨t305, t306⟩, A360, H⟩ := H
                    replace H : ((lex_Tokens.f kj32 x8_1).bind fun bt309 => (if t306 = 0 then (if bt309.2 = 0 then (chancellaw4_LexBlanks.j3 kj32 t305 bt309.1 ((t305.length : Int) != (bt309.1.length : Int))) else (chancellaw4_LexBlanks.j3 kj32 t305 bt309.1 true)) else (chancellaw4_LexBlanks.j3 kj32 t305 bt309.1 true))) = some r := H
                    have A36 := Aside0.mk A360
                    clear A360
                    replace H := Option.bind_eq_some_iff.mp H
                    obtain ⟨⟨t309, t310⟩, A370, H⟩ := H
                    replace H : (if t306 = 0 then (if t310 = 0 then (chancellaw4_LexBlanks.j3 kj32 t305 t309 ((t305.length : Int) != (t309.length : Int))) else (chancellaw4_LexBlanks.j3 kj32 t305 t309 true)) else (chancellaw4_LexBlanks.j3 kj32 t305 t309 true)) = some r := H
                    have A37 := Aside0.mk A370
                    clear A370
                    have HC38 := Aside0.mk H
                    clear H
                    go_upto_region 19 with (first | (go_at_call 12; (with_reducible refine (lex_Tokens.calls kj32 x7_1 t305 t306 _ A36.out ?side1).mono ?_); (case side1 => exact Tb.below HT.out (by repeat (first | (with_reducible first | exact HB.out | apply below_alloc | apply pw_below_drewN | apply below_drew1) | exact HB.out))); rintro e w39 ⟨v307, rfl, ho0, hb⟩; have n0_ := Aside0.mk (Kd.R_lower ho0 (below_size (by repeat (first | (with_reducible first | exact HB.out | apply below_alloc | apply pw_below_drewN | apply below_drew1) | exact HB.out)))); have n1_ := Aside0.mk (below_step (by repeat (first | (with_reducible first | exact HB.out | apply below_alloc | apply pw_below_drewN | apply below_drew1) | exact HB.out)) hb); clear HB; have HO308 := n0_; have HB := n1_; clear n0_ n1_; (try clear hb); (try clear hb2); (try clear hk); (try clear hi); (try clear ho0)) | (go_at_call 12; (with_reducible refine (lex_Tokens.calls kj32 x8_1 t309 t310 _ A37.out ?side1).mono ?_); (case side1 => exact Tb.below HT.out (by repeat (first | (with_reducible first | exact HB.out | apply below_alloc | apply pw_below_drewN | apply below_drew1) | exact HB.out))); rintro e w40 ⟨v311, rfl, ho0, hb⟩; have n0_ := Aside0.mk (Kd.R_elder' (by (with_reducible repeat (first | apply Kd.R_alloc | apply Kd.R_drewN | apply Kd.R_drew)); exact HO308.out) (Kd.R_base ho0) hb); have n1_ := Aside0.mk (Kd.R_lower (Kd.R_new' ho0 (Kd.R_lt (by (with_reducible repeat (first | apply Kd.R_alloc | apply Kd.R_drewN | apply Kd.R_drew)); exact HO308.out))) (below_size (by repeat (first | (with_reducible first | exact HB.out | apply below_alloc | apply pw_below_drewN | apply below_drew1) | exact HB.out)))); have n2_ := Aside0.mk (below_step (by repeat (first | (with_reducible first | exact HB.out | apply below_alloc | apply pw_below_drewN | apply below_drew1) | exact HB.out)) hb); clear HO308; clear HB; have HO308 := n0_; have HO312 := n1_; have HB := n2_; clear n0_ n1_ n2_; (try clear hb); (try clear hb2); (try clear hk); (try clear hi); (try clear ho0)))
                    repeat (go_quiet (first | (go_at_call 12; (with_reducible refine (lex_Tokens.calls kj32 x7_1 t305 t306 _ A36.out ?side1).mono ?_); (case side1 => exact Tb.below HT.out (by repeat (first | (with_reducible first | exact HB.out | apply below_alloc | apply pw_below_drewN | apply below_drew1) | exact HB.out))); rintro e w39 ⟨v307, rfl, ho0, hb⟩; have n0_ := Aside0.mk (Kd.R_lower ho0 (below_size (by repeat (first | (with_reducible first | exact HB.out | apply below_alloc | apply pw_below_drewN | apply below_drew1) | exact HB.out)))); have n1_ := Aside0.mk (below_step (by repeat (first | (with_reducible first | exact HB.out | apply below_alloc | apply pw_below_drewN | apply below_drew1) | exact HB.out)) hb); clear HB; have HO308 := n0_; have HB := n1_; clear n0_ n1_; (try clear hb); (try clear hb2); (try clear hk); (try clear hi); (try clear ho0)) | (go_at_call 12; (with_reducible refine (lex_Tokens.calls kj32 x8_1 t309 t310 _ A37.out ?side1).mono ?_); (case side1 => exact Tb.below HT.out (by repeat (first | (with_reducible first | exact HB.out | apply below_alloc | apply pw_below_drewN | apply below_drew1) | exact HB.out))); rintro e w40 ⟨v311, rfl, ho0, hb⟩; have n0_ := Aside0.mk (Kd.R_elder' (by (with_reducible repeat (first | apply Kd.R_alloc | apply Kd.R_drewN | apply Kd.R_drew)); exact HO308.out) (Kd.R_base ho0) hb); have n1_ := Aside0.mk (Kd.R_lower (Kd.R_new' ho0 (Kd.R_lt (by (with_reducible repeat (first | apply Kd.R_alloc | apply Kd.R_drewN | apply Kd.R_drew)); exact HO308.out))) (below_size (by repeat (first | (with_reducible first | exact HB.out | apply below_alloc | apply pw_below_drewN | apply below_drew1) | exact HB.out)))); have n2_ := Aside0.mk (below_step (by repeat (first | (with_reducible first | exact HB.out | apply below_alloc | apply pw_below_drewN | apply below_drew1) | exact HB.out)) hb); clear HO308; clear HB; have HO308 := n0_; have HO312 := n1_; have HB := n2_; clear n0_ n1_ n2_; (try clear hb); (try clear hb2); (try clear hk); (try clear hi); (try clear ho0))); go_upto_region 19 with (first | (go_at_call 12; (with_reducible refine (lex_Tokens.calls kj32 x7_1 t305 t306 _ A36.out ?side1).mono ?_); (case side1 => exact Tb.below HT.out (by repeat (first | (with_reducible first | exact HB.out | apply below_alloc | apply pw_below_drewN | apply below_drew1) | exact HB.out))); rintro e w39 ⟨v307, rfl, ho0, hb⟩; have n0_ := Aside0.mk (Kd.R_lower ho0 (below_size (by repeat (first | (with_reducible first | exact HB.out | apply below_alloc | apply pw_below_drewN | apply below_drew1) | exact HB.out)))); have n1_ := Aside0.mk (below_step (by repeat (first | (with_reducible first | exact HB.out | apply below_alloc | apply pw_below_drewN | apply below_drew1) | exact HB.out)) hb); clear HB; have HO308 := n0_; have HB := n1_; clear n0_ n1_; (try clear hb); (try clear hb2); (try clear hk); (try clear hi); (try clear ho0)) | (go_at_call 12; (with_reducible refine (lex_Tokens.calls kj32 x8_1 t309 t310 _ A37.out ?side1).mono ?_); (case side1 => exact Tb.below HT.out (by repeat (first | (with_reducible first | exact HB.out | apply below_alloc | apply pw_below_drewN | apply below_drew1) | exact HB.out))); rintro e w40 ⟨v311, rfl, ho0, hb⟩; have n0_ := Aside0.mk (Kd.R_elder' (by (with_reducible repeat (first | apply Kd.R_alloc | apply Kd.R_drewN | apply Kd.R_drew)); exact HO308.out) (Kd.R_base ho0) hb); have n1_ := Aside0.mk (Kd.R_lower (Kd.R_new' ho0 (Kd.R_lt (by (with_reducible repeat (first | apply Kd.R_alloc | apply Kd.R_drewN | apply Kd.R_drew)); exact HO308.out))) (below_size (by repeat (first | (with_reducible first | exact HB.out | apply below_alloc | apply pw_below_drewN | apply below_drew1) | exact HB.out)))); have n2_ := Aside0.mk (below_step (by repeat (first | (with_reducible first | exact HB.out | apply below_alloc | apply pw_below_drewN | apply below_drew1) | exact HB.out)) hb); clear HO308; clear HB; have HO308 := n0_; have HO312 := n1_; have HB := n2_; clear n0_ n1_ n2_; (try clear hb); (try clear hb2); (try clear hk); (try clear hi); (try clear ho0))))
                    (try simp only [Act.put, List.setIfInBounds_toArray, List.set_cons_zero, List.set_cons_succ])
                    go_cut [95] (fun v95 wc => ∃ (kq : Nat) (x95_37 : Bool), v95 = .bool x95_37 ∧ Aside0 (chancellaw4_LexBlanks.j3 kq t305 t309 x95_37 = some r) ∧ Aside0 (kq ≤ kj32) ∧ Aside0 (Kd.R k35 35 wc w.heap.size (fun k_ => some k_ ≠ (v311 : Value).ownBlock) v307 t305) ∧ Aside0 (Kd.R k35 35 wc w.heap.size (fun k_ => some k_ ≠ (v307 : Value).ownBlock) v311 t309) ∧ Aside0 (Below w.heap.size w wc))
                    case first =>
                      have H := HC38.out
                      clear HC38
                      by_cases c41 : t306 = 0
                      · rw [if_pos c41] at H
                        have c41b0 : (t306 == 0) = true := beq_iff_eq.mpr c41
                        have c41b1 : (t306 != 0) = false := bne_eq_false_iff_eq.mpr c41
                        clear c41
                        (first | rw [c41b0] | (simp only [i64_w, i32_w]; rw [c41b0]) | skip)
                        by_cases c42 : t310 = 0
                        · rw [if_pos c42] at H
                          have c42b0 : (t310 == 0) = true := beq_iff_eq.mpr c42
                          have c42b1 : (t310 != 0) = false := bne_eq_false_iff_eq.mpr c42
                          clear c42
                          have H' := Aside0.mk H
                          clear H
                          obtain ⟨Ao43, co43, eo43⟩ := Kd.R_slice HO308.out
                          subst eo43
                          obtain ⟨Ao44, co44, eo44⟩ := Kd.R_slice HO312.out
                          subst eo44
                          go_wp2
                          repeat (go_quiet (fail); try go_wp2)
                          go_meet
                          case rel => exact ⟨_, (((t305.length : Int) != (t309.length : Int))), (by first | rfl | (simp; done) | (simp [*]; done)), H', ⟨by have := HK1.out; have := HJ6.out; have := HJ32.out; first | omega | exact Nat.le_refl _⟩, ⟨by (with_reducible repeat (first | apply Kd.R_alloc | apply Kd.R_drewN | apply Kd.R_drew)); exact Kd.R_mono HO308.out (fun _ hk => hk.2)⟩, ⟨by (with_reducible repeat (first | apply Kd.R_alloc | apply Kd.R_drewN | apply Kd.R_drew)); exact Kd.R_mono HO312.out (fun _ hk => hk.2)⟩, ⟨by repeat (first | (with_reducible first | exact HB.out | apply below_alloc | apply pw_below_drewN | apply below_drew1) | exact HB.out)⟩⟩
                        · rw [if_neg c42] at H
                          have c42b0 : (t310 == 0) = false := beq_eq_false_iff_ne.mpr c42
                          have c42b1 : (t310 != 0) = true := bne_iff_ne.mpr c42
                          have H' := Aside0.mk H
                          clear H
                          go_wp2
                          repeat (go_quiet (fail); try go_wp2)
                          go_meet
                          case rel => exact ⟨_, (true), (by first | rfl | (simp; done) | (simp [*]; done)), H', ⟨by have := HK1.out; have := HJ6.out; have := HJ32.out; first | omega | exact Nat.le_refl _⟩, ⟨by (with_reducible repeat (first | apply Kd.R_alloc | apply Kd.R_drewN | apply Kd.R_drew)); exact Kd.R_mono HO308.out (fun _ hk => hk.2)⟩, ⟨by (with_reducible repeat (first | apply Kd.R_alloc | apply Kd.R_drewN | apply Kd.R_drew)); exact Kd.R_mono HO312.out (fun _ hk => hk.2)⟩, ⟨by repeat (first | (with_reducible first | exact HB.out | apply below_alloc | apply pw_below_drewN | apply below_drew1) | exact HB.out)⟩⟩
                      · rw [if_neg c41] at H
                        have c41b0 : (t306 == 0) = false := beq_eq_false_iff_ne.mpr c41
                        have c41b1 : (t306 != 0) = true := bne_iff_ne.mpr c41
                        (first | rw [c41b0] | (simp only [i64_w, i32_w]; rw [c41b0]) | skip)
                        have H' := Aside0.mk H
                        clear H
                        go_wp2
                        repeat (go_quiet (fail); try go_wp2)
                        go_meet
                        case rel => exact ⟨_, (true), (by first | rfl | (simp; done) | (simp [*]; done)), H', ⟨by have := HK1.out; have := HJ6.out; have := HJ32.out; first | omega | exact Nat.le_refl _⟩, ⟨by (with_reducible repeat (first | apply Kd.R_alloc | apply Kd.R_drewN | apply Kd.R_drew)); exact Kd.R_mono HO308.out (fun _ hk => hk.2)⟩, ⟨by (with_reducible repeat (first | apply Kd.R_alloc | apply Kd.R_drewN | apply Kd.R_drew)); exact Kd.R_mono HO312.out (fun _ hk => hk.2)⟩, ⟨by repeat (first | (with_reducible first | exact HB.out | apply below_alloc | apply pw_below_drewN | apply below_drew1) | exact HB.out)⟩⟩
                    case rest =>
                      clear HC38
                      try clear c1
                      try clear c2
                      try clear p2
                      try clear q2
                      try clear hx2
                      try clear c3
                      try clear p3
                      try clear q3
                      try clear hx3
                      try clear c4
                      try clear c5
                      try clear p6
                      try clear c8
                      try clear c8b0
                      try clear c9
                      try clear c10
                      try clear c10b0
                      try clear c11
                      try clear c11b0
                      try clear c14
                      try clear c14b0
                      try clear c14b1
                      try clear c15
                      try clear c15b0
                      try clear c15b1
                      try clear c15b2
                      try clear c16
                      try clear c16b0
                      try clear c16b1
                      try clear c16b2
                      try clear c17
                      try clear c17b0
                      try clear c17b1
                      try clear c17b2
                      try clear c18
                      try clear c18b0
                      try clear c18b1
                      try clear c18b2
                      try clear c19
                      try clear c19b0
                      try clear c21
                      try clear c21b0
                      try clear c22
                      try clear c22b0
                      try clear c23
                      try clear c23b0
                      try clear c23b1
                      try clear c23b2
                      try clear p29
                      try clear q29
                      try clear hx29
                      try clear p30
                      try clear q30
                      try clear hx30
                      try clear c34
                      try clear c34b0
                      try clear c34b1
                      try clear c35
                      try clear c41
                      try clear c41b0
                      try clear c41b1
                      try clear c42
                      try clear c42b0
                      try clear c42b1
                      try clear hx293_0
                      try clear hx302_0
                      try clear hx304_0
                      try clear p2
                      try clear p29
                      try clear p293
                      try clear p3
                      try clear p30
                      try clear p302
                      try clear p304
                      try clear p6
                      try clear q2
                      try clear q29
                      try clear q293
                      try clear q3
                      try clear q30
                      try clear q302
                      try clear q304
                      obtain ⟨kq, x95_37, rfl, HA, HJ37, HO_13, HO_15, HB⟩ := hcut
                      cases kq with
                      | zero => exact absurd HA.out (by simp [chancellaw4_LexBlanks.j3])
                      | succ kj37 =>
                        have H := HA.out
                        clear HA
                        simp only [chancellaw4_LexBlanks.j3] at H
                        by_cases c45 : x95_37 = true
                        · subst c45
                          have H1 : (some false) = some r := by rw [if_pos rfl] at H; exact H
                          clear H
                          have H := H1
                          clear H1
                          obtain rfl := Option.some.inj H
                          go_wp2
                          repeat (go_quiet (fail); try go_wp2)
                          go_ret
                          exact ⟨by first | rfl | (simp [errW_none, errW_some] <;> rfl) | (simp [*, errW_none, errW_some] <;> rfl), by repeat (first | (with_reducible first | exact HB.out | apply below_alloc | apply pw_below_drewN | apply below_drew1) | exact HB.out)⟩
                        · replace c45 := Bool.eq_false_iff.mpr c45
                          subst c45
                          have H1 : (chancellaw4_LexBlanks.l1 kj37 t305 t309 0) = some r := by rw [if_neg (show ¬ (false = true) by decide)] at H; exact H
                          clear H
                          have H := H1
                          clear H1
                          have H' := Aside0.mk H
                          clear H
                          go_wp2
                          repeat (go_quiet (fail); try go_wp2)
                          go_loopg [17] kj37 (fun kq v17 w' => ∃ (x17_5 : Int), v17 = .int .i64 x17_5 ∧ Aside0 (chancellaw4_LexBlanks.l1 kq t305 t309 x17_5 = some r) ∧ Aside0 (kq ≤ kj37) ∧ Aside0 (Kd.R k35 35 w' w.heap.size (fun k_ => some k_ ≠ (v311 : Value).ownBlock) v307 t305) ∧ Aside0 (Kd.R k35 35 w' w.heap.size (fun k_ => some k_ ≠ (v307 : Value).ownBlock) v311 t309) ∧ Aside0 (Below w.heap.size w w'))
                          case atStart => exact ⟨(0), (by first | rfl | (simp; done) | (simp [*]; done)), H', ⟨Nat.le_refl _⟩, ⟨by (with_reducible repeat (first | apply Kd.R_alloc | apply Kd.R_drewN | apply Kd.R_drew)); exact HO_13.out⟩, ⟨by (with_reducible repeat (first | apply Kd.R_alloc | apply Kd.R_drewN | apply Kd.R_drew)); exact HO_15.out⟩, ⟨by repeat (first | (with_reducible first | exact HB.out | apply below_alloc | apply pw_below_drewN | apply below_drew1) | exact HB.out)⟩⟩
                          case round =>
                            clear H'
                            try clear c1
                            try clear c2
                            try clear p2
                            try clear q2
                            try clear hx2
                            try clear c3
                            try clear p3
                            try clear q3
                            try clear hx3
                            try clear c4
                            try clear c5
                            try clear p6
                            try clear c8
                            try clear c8b0
                            try clear c9
                            try clear c10
                            try clear c10b0
                            try clear c11
                            try clear c11b0
                            try clear c14
                            try clear c14b0
                            try clear c14b1
                            try clear c15
                            try clear c15b0
                            try clear c15b1
                            try clear c15b2
                            try clear c16
                            try clear c16b0
                            try clear c16b1
                            try clear c16b2
                            try clear c17
                            try clear c17b0
                            try clear c17b1
                            try clear c17b2
                            try clear c18
                            try clear c18b0
                            try clear c18b1
                            try clear c18b2
                            try clear c19
                            try clear c19b0
                            try clear c21
                            try clear c21b0
                            try clear c22
                            try clear c22b0
                            try clear c23
                            try clear c23b0
                            try clear c23b1
                            try clear c23b2
                            try clear p29
                            try clear q29
                            try clear hx29
                            try clear p30
                            try clear q30
                            try clear hx30
                            try clear c34
                            try clear c34b0
                            try clear c34b1
                            try clear c35
                            try clear c41
                            try clear c41b0
                            try clear c41b1
                            try clear c42
                            try clear c42b0
                            try clear c42b1
                            try clear c45
                            try clear hx293_0
                            try clear hx302_0
                            try clear hx304_0
                            try clear p2
                            try clear p29
                            try clear p293
                            try clear p3
                            try clear p30
                            try clear p302
                            try clear p304
                            try clear p6
                            try clear q2
                            try clear q29
                            try clear q293
                            try clear q3
                            try clear q30
                            try clear q302
                            try clear q304
                            obtain ⟨x17_5, rfl, HA, HK5, HO_13, HO_15, HB⟩ := hrel
                            cases gk with
                            | zero => exact absurd HA.out (by simp [chancellaw4_LexBlanks.l1])
                            | succ k5 =>
                              have H := HA.out
                              clear HA
                              simp only [chancellaw4_LexBlanks.l1] at H
                              by_cases c46 : x17_5 < (t305.length : Int)
                              · rw [if_pos c46] at H
                                have c46b0 : decide (x17_5 < (t305.length : Int)) = true := decide_eq_true c46
                                clear c46
                                by_cases c47 : 0 ≤ x17_5
                                · rw [if_pos c47] at H
                                  have c47b0 : decide (0 ≤ x17_5) = true := decide_eq_true c47
                                  clear c47
                                  by_cases c48 : x17_5 < (t309.length : Int)
                                  · rw [if_pos c48] at H
                                    have c48b0 : decide (x17_5 < (t309.length : Int)) = true := decide_eq_true c48
                                    clear c48
                                    by_cases c49 : ((rd_T35 t305 x17_5).f0) = ((rd_T35 t309 x17_5).f0)
                                    · rw [if_pos c49] at H
                                      have c49b0 : (((rd_T35 t305 x17_5).f0) == ((rd_T35 t309 x17_5).f0)) = true := beq_iff_eq.mpr c49
                                      have c49b1 : (((rd_T35 t305 x17_5).f0) != ((rd_T35 t309 x17_5).f0)) = false := bne_eq_false_iff_eq.mpr c49
                                      clear c49
                                      by_cases c50 : ((rd_T35 t305 x17_5).f1).toList = ((rd_T35 t309 x17_5).f1).toList
                                      · rw [if_pos c50] at H
                                        have c50b0 : (((rd_T35 t305 x17_5).f1).toList == ((rd_T35 t309 x17_5).f1).toList) = true := beq_iff_eq.mpr c50
                                        have c50b1 : (((rd_T35 t305 x17_5).f1).toList != ((rd_T35 t309 x17_5).f1).toList) = false := bne_eq_false_iff_eq.mpr c50
                                        clear c50
                                        by_cases c51 : ((rd_T35 t305 x17_5).f2) = ((rd_T35 t309 x17_5).f2)
                                        · rw [if_pos c51] at H
                                          have c51b0 : (((rd_T35 t305 x17_5).f2) == ((rd_T35 t309 x17_5).f2)) = true := beq_iff_eq.mpr c51
                                          have c51b1 : (((rd_T35 t305 x17_5).f2) != ((rd_T35 t309 x17_5).f2)) = false := bne_eq_false_iff_eq.mpr c51
                                          clear c51
                                          by_cases c52 : x17_5 > 0
                                          · rw [if_pos c52] at H
                                            have c52b0 : decide (0 < x17_5) = true := decide_eq_true c52
                                            clear c52
                                            obtain ⟨ji53, hji53⟩ : ∃ j_ : Int, (wrap64 (x17_5 - 1)) = j_ := ⟨_, rfl⟩
                                            replace H : (if 0 ≤ (ji53) then (if (ji53) < (t309.length : Int) then (if ((rd_T35 t309 x17_5).f3) ≤ ((rd_T35 t309 (ji53)).f3) then (some false) else (chancellaw4_LexBlanks.l1 k5 t305 t309 (wrap64 (x17_5 + 1)))) else (none)) else (none)) = some r := by first | (rw [hji53] at H; exact H) | (simp only [hji53] at H ⊢; exact H)
                                            have hji53w : (IntKind.i64.wrap (x17_5 - 1)) = ji53 := (i64_w _).trans hji53
                                            by_cases c54 : 0 ≤ (ji53)
                                            · rw [if_pos c54] at H
                                              have c54b0 : decide (0 ≤ (ji53)) = true := decide_eq_true c54
                                              clear c54
                                              by_cases c55 : (ji53) < (t309.length : Int)
                                              · rw [if_pos c55] at H
                                                have c55b0 : decide ((ji53) < (t309.length : Int)) = true := decide_eq_true c55
                                                clear c55
                                                by_cases c56 : ((rd_T35 t309 x17_5).f3) ≤ ((rd_T35 t309 (ji53)).f3)
                                                · rw [if_pos c56] at H
                                                  have c56b0 : decide (((rd_T35 t309 x17_5).f3) ≤ ((rd_T35 t309 (ji53)).f3)) = true := decide_eq_true c56
                                                  clear c56
                                                  obtain rfl := Option.some.inj H
                                                  obtain ⟨Ao57, co57, eo57⟩ := Kd.R_slice HO_13.out
                                                  subst eo57
                                                  have p313 : 0 ≤ (x17_5 : Int) := of_decide_eq_true (by first | (with_reducible assumption) | assumption)
                                                  have q313 : x17_5 < (t305.length : Int) := of_decide_eq_true (by first | (with_reducible assumption) | assumption)
                                                  obtain ⟨ad313, e313, hx313_0, hx313_1, hx313_2, hx313_3⟩ := at_T35 (Kd.R_reads' HO_13.out).2.2 x17_5 p313 q313
                                                  cases e313
                                                  replace p313 := eq_true p313
                                                  replace q313 := eq_true q313
                                                  obtain ⟨Ao58, co58, eo58⟩ := Kd.R_slice HO_15.out
                                                  subst eo58
                                                  have p314 : 0 ≤ (x17_5 : Int) := of_decide_eq_true (by first | (with_reducible assumption) | assumption)
                                                  have q314 : x17_5 < (t309.length : Int) := of_decide_eq_true (by first | (with_reducible assumption) | assumption)
                                                  obtain ⟨ad314, e314, hx314_0, hx314_1, hx314_2, hx314_3⟩ := at_T35 (Kd.R_reads' HO_15.out).2.2 x17_5 p314 q314
                                                  cases e314
                                                  replace p314 := eq_true p314
                                                  replace q314 := eq_true q314
                                                  have p315 : 0 ≤ (x17_5 : Int) := of_decide_eq_true (by first | (with_reducible assumption) | assumption)
                                                  have q315 : x17_5 < (t305.length : Int) := of_decide_eq_true (by first | (with_reducible assumption) | assumption)
                                                  obtain ⟨ad315, e315, hx315_0, hx315_1, hx315_2, hx315_3⟩ := at_T35 (Kd.R_reads' HO_13.out).2.2 x17_5 p315 q315
                                                  obtain rfl : ad313 = ad315 := (by injection e315)
                                                  replace p315 := eq_true p315
                                                  replace q315 := eq_true q315
                                                  have p316 : 0 ≤ (x17_5 : Int) := of_decide_eq_true (by first | (with_reducible assumption) | assumption)
                                                  have q316 : x17_5 < (t309.length : Int) := of_decide_eq_true (by first | (with_reducible assumption) | assumption)
                                                  obtain ⟨ad316, e316, hx316_0, hx316_1, hx316_2, hx316_3⟩ := at_T35 (Kd.R_reads' HO_15.out).2.2 x17_5 p316 q316
                                                  obtain rfl : ad314 = ad316 := (by injection e316)
                                                  replace p316 := eq_true p316
                                                  replace q316 := eq_true q316
                                                  have p317 : 0 ≤ (x17_5 : Int) := of_decide_eq_true (by first | (with_reducible assumption) | assumption)
                                                  have q317 : x17_5 < (t305.length : Int) := of_decide_eq_true (by first | (with_reducible assumption) | assumption)
                                                  obtain ⟨ad317, e317, hx317_0, hx317_1, hx317_2, hx317_3⟩ := at_T35 (Kd.R_reads' HO_13.out).2.2 x17_5 p317 q317
                                                  obtain rfl : ad313 = ad317 := (by injection e317)
                                                  replace p317 := eq_true p317
                                                  replace q317 := eq_true q317
                                                  have p318 : 0 ≤ (x17_5 : Int) := of_decide_eq_true (by first | (with_reducible assumption) | assumption)
                                                  have q318 : x17_5 < (t309.length : Int) := of_decide_eq_true (by first | (with_reducible assumption) | assumption)
                                                  obtain ⟨ad318, e318, hx318_0, hx318_1, hx318_2, hx318_3⟩ := at_T35 (Kd.R_reads' HO_15.out).2.2 x17_5 p318 q318
                                                  obtain rfl : ad314 = ad318 := (by injection e318)
                                                  replace p318 := eq_true p318
                                                  replace q318 := eq_true q318
                                                  have p319 : 0 ≤ (x17_5 : Int) := of_decide_eq_true (by first | (with_reducible assumption) | assumption)
                                                  have q319 : x17_5 < (t309.length : Int) := of_decide_eq_true (by first | (with_reducible assumption) | assumption)
                                                  obtain ⟨ad319, e319, hx319_0, hx319_1, hx319_2, hx319_3⟩ := at_T35 (Kd.R_reads' HO_15.out).2.2 x17_5 p319 q319
                                                  obtain rfl : ad314 = ad319 := (by injection e319)
                                                  replace p319 := eq_true p319
                                                  replace q319 := eq_true q319
                                                  have p320 : 0 ≤ ((ji53) : Int) := of_decide_eq_true (by first | (with_reducible assumption) | assumption)
                                                  have q320 : (ji53) < (t309.length : Int) := of_decide_eq_true (by first | (with_reducible assumption) | assumption)
                                                  obtain ⟨ad320, e320, hx320_0, hx320_1, hx320_2, hx320_3⟩ := at_T35 (Kd.R_reads' HO_15.out).2.2 (ji53) p320 q320
                                                  obtain rfl : ad314 = ad320 := (by injection e320)
                                                  replace p320 := eq_true p320
                                                  replace q320 := eq_true q320
                                                  go_wp2
                                                  repeat (go_quiet (fail); try go_wp2)
                                                  go_ret
                                                  exact ⟨by first | rfl | (simp [errW_none, errW_some] <;> rfl) | (simp only [← hji53]; first | rfl | (simp [errW_none, errW_some] <;> rfl)) | (simp [*, errW_none, errW_some] <;> rfl), by repeat (first | (with_reducible first | exact HB.out | apply below_alloc | apply pw_below_drewN | apply below_drew1) | exact HB.out)⟩
                                                · rw [if_neg c56] at H
                                                  have c56b0 : decide (((rd_T35 t309 x17_5).f3) ≤ ((rd_T35 t309 (ji53)).f3)) = false := decide_eq_false c56
                                                  clear c56
                                                  have H' := Aside0.mk H
                                                  clear H
                                                  obtain ⟨Ao59, co59, eo59⟩ := Kd.R_slice HO_13.out
                                                  subst eo59
                                                  have p313 : 0 ≤ (x17_5 : Int) := of_decide_eq_true (by first | (with_reducible assumption) | assumption)
                                                  have q313 : x17_5 < (t305.length : Int) := of_decide_eq_true (by first | (with_reducible assumption) | assumption)
                                                  obtain ⟨ad313, e313, hx313_0, hx313_1, hx313_2, hx313_3⟩ := at_T35 (Kd.R_reads' HO_13.out).2.2 x17_5 p313 q313
                                                  cases e313
                                                  replace p313 := eq_true p313
                                                  replace q313 := eq_true q313
                                                  obtain ⟨Ao60, co60, eo60⟩ := Kd.R_slice HO_15.out
                                                  subst eo60
                                                  have p314 : 0 ≤ (x17_5 : Int) := of_decide_eq_true (by first | (with_reducible assumption) | assumption)
                                                  have q314 : x17_5 < (t309.length : Int) := of_decide_eq_true (by first | (with_reducible assumption) | assumption)
                                                  obtain ⟨ad314, e314, hx314_0, hx314_1, hx314_2, hx314_3⟩ := at_T35 (Kd.R_reads' HO_15.out).2.2 x17_5 p314 q314
                                                  cases e314
                                                  replace p314 := eq_true p314
                                                  replace q314 := eq_true q314
                                                  have p315 : 0 ≤ (x17_5 : Int) := of_decide_eq_true (by first | (with_reducible assumption) | assumption)
                                                  have q315 : x17_5 < (t305.length : Int) := of_decide_eq_true (by first | (with_reducible assumption) | assumption)
                                                  obtain ⟨ad315, e315, hx315_0, hx315_1, hx315_2, hx315_3⟩ := at_T35 (Kd.R_reads' HO_13.out).2.2 x17_5 p315 q315
                                                  obtain rfl : ad313 = ad315 := (by injection e315)
                                                  replace p315 := eq_true p315
                                                  replace q315 := eq_true q315
                                                  have p316 : 0 ≤ (x17_5 : Int) := of_decide_eq_true (by first | (with_reducible assumption) | assumption)
                                                  have q316 : x17_5 < (t309.length : Int) := of_decide_eq_true (by first | (with_reducible assumption) | assumption)
                                                  obtain ⟨ad316, e316, hx316_0, hx316_1, hx316_2, hx316_3⟩ := at_T35 (Kd.R_reads' HO_15.out).2.2 x17_5 p316 q316
                                                  obtain rfl : ad314 = ad316 := (by injection e316)
                                                  replace p316 := eq_true p316
                                                  replace q316 := eq_true q316
                                                  have p317 : 0 ≤ (x17_5 : Int) := of_decide_eq_true (by first | (with_reducible assumption) | assumption)
                                                  have q317 : x17_5 < (t305.length : Int) := of_decide_eq_true (by first | (with_reducible assumption) | assumption)
                                                  obtain ⟨ad317, e317, hx317_0, hx317_1, hx317_2, hx317_3⟩ := at_T35 (Kd.R_reads' HO_13.out).2.2 x17_5 p317 q317
                                                  obtain rfl : ad313 = ad317 := (by injection e317)
                                                  replace p317 := eq_true p317
                                                  replace q317 := eq_true q317
                                                  have p318 : 0 ≤ (x17_5 : Int) := of_decide_eq_true (by first | (with_reducible assumption) | assumption)
                                                  have q318 : x17_5 < (t309.length : Int) := of_decide_eq_true (by first | (with_reducible assumption) | assumption)
                                                  obtain ⟨ad318, e318, hx318_0, hx318_1, hx318_2, hx318_3⟩ := at_T35 (Kd.R_reads' HO_15.out).2.2 x17_5 p318 q318
                                                  obtain rfl : ad314 = ad318 := (by injection e318)
                                                  replace p318 := eq_true p318
                                                  replace q318 := eq_true q318
                                                  have p319 : 0 ≤ (x17_5 : Int) := of_decide_eq_true (by first | (with_reducible assumption) | assumption)
                                                  have q319 : x17_5 < (t309.length : Int) := of_decide_eq_true (by first | (with_reducible assumption) | assumption)
                                                  obtain ⟨ad319, e319, hx319_0, hx319_1, hx319_2, hx319_3⟩ := at_T35 (Kd.R_reads' HO_15.out).2.2 x17_5 p319 q319
                                                  obtain rfl : ad314 = ad319 := (by injection e319)
                                                  replace p319 := eq_true p319
                                                  replace q319 := eq_true q319
                                                  have p320 : 0 ≤ ((ji53) : Int) := of_decide_eq_true (by first | (with_reducible assumption) | assumption)
                                                  have q320 : (ji53) < (t309.length : Int) := of_decide_eq_true (by first | (with_reducible assumption) | assumption)
                                                  obtain ⟨ad320, e320, hx320_0, hx320_1, hx320_2, hx320_3⟩ := at_T35 (Kd.R_reads' HO_15.out).2.2 (ji53) p320 q320
                                                  obtain rfl : ad314 = ad320 := (by injection e320)
                                                  replace p320 := eq_true p320
                                                  replace q320 := eq_true q320
                                                  go_wp2
                                                  repeat (go_quiet (fail); try go_wp2)
                                                  go_roundg k5
                                                  case measure => have := HK1.out; have := HJ6.out; have := HJ32.out; have := HJ37.out; have := HK5.out; omega
                                                  case rel => exact ⟨(wrap64 (x17_5 + 1)), (by first | rfl | (simp; done) | (simp [*]; done)), H', ⟨by have := HK1.out; have := HJ6.out; have := HJ32.out; have := HJ37.out; have := HK5.out; omega⟩, ⟨by (with_reducible repeat (first | apply Kd.R_alloc | apply Kd.R_drewN | apply Kd.R_drew)); exact HO_13.out⟩, ⟨by (with_reducible repeat (first | apply Kd.R_alloc | apply Kd.R_drewN | apply Kd.R_drew)); exact HO_15.out⟩, ⟨by repeat (first | (with_reducible first | exact HB.out | apply below_alloc | apply pw_below_drewN | apply below_drew1) | exact HB.out)⟩⟩
                                              · rw [if_neg c55] at H
                                                exact absurd H (by simp)
                                            · rw [if_neg c54] at H
                                              exact absurd H (by simp)
                                          · rw [if_neg c52] at H
                                            have c52b0 : decide (0 < x17_5) = false := decide_eq_false c52
                                            clear c52
                                            have H' := Aside0.mk H
                                            clear H
                                            obtain ⟨Ao61, co61, eo61⟩ := Kd.R_slice HO_13.out
                                            subst eo61
                                            have p313 : 0 ≤ (x17_5 : Int) := of_decide_eq_true (by first | (with_reducible assumption) | assumption)
                                            have q313 : x17_5 < (t305.length : Int) := of_decide_eq_true (by first | (with_reducible assumption) | assumption)
                                            obtain ⟨ad313, e313, hx313_0, hx313_1, hx313_2, hx313_3⟩ := at_T35 (Kd.R_reads' HO_13.out).2.2 x17_5 p313 q313
                                            cases e313
                                            replace p313 := eq_true p313
                                            replace q313 := eq_true q313
                                            obtain ⟨Ao62, co62, eo62⟩ := Kd.R_slice HO_15.out
                                            subst eo62
                                            have p314 : 0 ≤ (x17_5 : Int) := of_decide_eq_true (by first | (with_reducible assumption) | assumption)
                                            have q314 : x17_5 < (t309.length : Int) := of_decide_eq_true (by first | (with_reducible assumption) | assumption)
                                            obtain ⟨ad314, e314, hx314_0, hx314_1, hx314_2, hx314_3⟩ := at_T35 (Kd.R_reads' HO_15.out).2.2 x17_5 p314 q314
                                            cases e314
                                            replace p314 := eq_true p314
                                            replace q314 := eq_true q314
                                            have p315 : 0 ≤ (x17_5 : Int) := of_decide_eq_true (by first | (with_reducible assumption) | assumption)
                                            have q315 : x17_5 < (t305.length : Int) := of_decide_eq_true (by first | (with_reducible assumption) | assumption)
                                            obtain ⟨ad315, e315, hx315_0, hx315_1, hx315_2, hx315_3⟩ := at_T35 (Kd.R_reads' HO_13.out).2.2 x17_5 p315 q315
                                            obtain rfl : ad313 = ad315 := (by injection e315)
                                            replace p315 := eq_true p315
                                            replace q315 := eq_true q315
                                            have p316 : 0 ≤ (x17_5 : Int) := of_decide_eq_true (by first | (with_reducible assumption) | assumption)
                                            have q316 : x17_5 < (t309.length : Int) := of_decide_eq_true (by first | (with_reducible assumption) | assumption)
                                            obtain ⟨ad316, e316, hx316_0, hx316_1, hx316_2, hx316_3⟩ := at_T35 (Kd.R_reads' HO_15.out).2.2 x17_5 p316 q316
                                            obtain rfl : ad314 = ad316 := (by injection e316)
                                            replace p316 := eq_true p316
                                            replace q316 := eq_true q316
                                            have p317 : 0 ≤ (x17_5 : Int) := of_decide_eq_true (by first | (with_reducible assumption) | assumption)
                                            have q317 : x17_5 < (t305.length : Int) := of_decide_eq_true (by first | (with_reducible assumption) | assumption)
                                            obtain ⟨ad317, e317, hx317_0, hx317_1, hx317_2, hx317_3⟩ := at_T35 (Kd.R_reads' HO_13.out).2.2 x17_5 p317 q317
                                            obtain rfl : ad313 = ad317 := (by injection e317)
                                            replace p317 := eq_true p317
                                            replace q317 := eq_true q317
                                            have p318 : 0 ≤ (x17_5 : Int) := of_decide_eq_true (by first | (with_reducible assumption) | assumption)
                                            have q318 : x17_5 < (t309.length : Int) := of_decide_eq_true (by first | (with_reducible assumption) | assumption)
                                            obtain ⟨ad318, e318, hx318_0, hx318_1, hx318_2, hx318_3⟩ := at_T35 (Kd.R_reads' HO_15.out).2.2 x17_5 p318 q318
                                            obtain rfl : ad314 = ad318 := (by injection e318)
                                            replace p318 := eq_true p318
                                            replace q318 := eq_true q318
                                            go_wp2
                                            repeat (go_quiet (fail); try go_wp2)
                                            go_roundg k5
                                            case measure => have := HK1.out; have := HJ6.out; have := HJ32.out; have := HJ37.out; have := HK5.out; omega
                                            case rel => exact ⟨(wrap64 (x17_5 + 1)), (by first | rfl | (simp; done) | (simp [*]; done)), H', ⟨by have := HK1.out; have := HJ6.out; have := HJ32.out; have := HJ37.out; have := HK5.out; omega⟩, ⟨by (with_reducible repeat (first | apply Kd.R_alloc | apply Kd.R_drewN | apply Kd.R_drew)); exact HO_13.out⟩, ⟨by (with_reducible repeat (first | apply Kd.R_alloc | apply Kd.R_drewN | apply Kd.R_drew)); exact HO_15.out⟩, ⟨by repeat (first | (with_reducible first | exact HB.out | apply below_alloc | apply pw_below_drewN | apply below_drew1) | exact HB.out)⟩⟩
                                        · rw [if_neg c51] at H
                                          have c51b0 : (((rd_T35 t305 x17_5).f2) == ((rd_T35 t309 x17_5).f2)) = false := beq_eq_false_iff_ne.mpr c51
                                          have c51b1 : (((rd_T35 t305 x17_5).f2) != ((rd_T35 t309 x17_5).f2)) = true := bne_iff_ne.mpr c51
                                          obtain rfl := Option.some.inj H
                                          obtain ⟨Ao63, co63, eo63⟩ := Kd.R_slice HO_13.out
                                          subst eo63
                                          have p313 : 0 ≤ (x17_5 : Int) := of_decide_eq_true (by first | (with_reducible assumption) | assumption)
                                          have q313 : x17_5 < (t305.length : Int) := of_decide_eq_true (by first | (with_reducible assumption) | assumption)
                                          obtain ⟨ad313, e313, hx313_0, hx313_1, hx313_2, hx313_3⟩ := at_T35 (Kd.R_reads' HO_13.out).2.2 x17_5 p313 q313
                                          cases e313
                                          replace p313 := eq_true p313
                                          replace q313 := eq_true q313
                                          obtain ⟨Ao64, co64, eo64⟩ := Kd.R_slice HO_15.out
                                          subst eo64
                                          have p314 : 0 ≤ (x17_5 : Int) := of_decide_eq_true (by first | (with_reducible assumption) | assumption)
                                          have q314 : x17_5 < (t309.length : Int) := of_decide_eq_true (by first | (with_reducible assumption) | assumption)
                                          obtain ⟨ad314, e314, hx314_0, hx314_1, hx314_2, hx314_3⟩ := at_T35 (Kd.R_reads' HO_15.out).2.2 x17_5 p314 q314
                                          cases e314
                                          replace p314 := eq_true p314
                                          replace q314 := eq_true q314
                                          have p315 : 0 ≤ (x17_5 : Int) := of_decide_eq_true (by first | (with_reducible assumption) | assumption)
                                          have q315 : x17_5 < (t305.length : Int) := of_decide_eq_true (by first | (with_reducible assumption) | assumption)
                                          obtain ⟨ad315, e315, hx315_0, hx315_1, hx315_2, hx315_3⟩ := at_T35 (Kd.R_reads' HO_13.out).2.2 x17_5 p315 q315
                                          obtain rfl : ad313 = ad315 := (by injection e315)
                                          replace p315 := eq_true p315
                                          replace q315 := eq_true q315
                                          have p316 : 0 ≤ (x17_5 : Int) := of_decide_eq_true (by first | (with_reducible assumption) | assumption)
                                          have q316 : x17_5 < (t309.length : Int) := of_decide_eq_true (by first | (with_reducible assumption) | assumption)
                                          obtain ⟨ad316, e316, hx316_0, hx316_1, hx316_2, hx316_3⟩ := at_T35 (Kd.R_reads' HO_15.out).2.2 x17_5 p316 q316
                                          obtain rfl : ad314 = ad316 := (by injection e316)
                                          replace p316 := eq_true p316
                                          replace q316 := eq_true q316
                                          have p317 : 0 ≤ (x17_5 : Int) := of_decide_eq_true (by first | (with_reducible assumption) | assumption)
                                          have q317 : x17_5 < (t305.length : Int) := of_decide_eq_true (by first | (with_reducible assumption) | assumption)
                                          obtain ⟨ad317, e317, hx317_0, hx317_1, hx317_2, hx317_3⟩ := at_T35 (Kd.R_reads' HO_13.out).2.2 x17_5 p317 q317
                                          obtain rfl : ad313 = ad317 := (by injection e317)
                                          replace p317 := eq_true p317
                                          replace q317 := eq_true q317
                                          have p318 : 0 ≤ (x17_5 : Int) := of_decide_eq_true (by first | (with_reducible assumption) | assumption)
                                          have q318 : x17_5 < (t309.length : Int) := of_decide_eq_true (by first | (with_reducible assumption) | assumption)
                                          obtain ⟨ad318, e318, hx318_0, hx318_1, hx318_2, hx318_3⟩ := at_T35 (Kd.R_reads' HO_15.out).2.2 x17_5 p318 q318
                                          obtain rfl : ad314 = ad318 := (by injection e318)
                                          replace p318 := eq_true p318
                                          replace q318 := eq_true q318
                                          go_wp2
                                          repeat (go_quiet (fail); try go_wp2)
                                          go_ret
                                          exact ⟨by first | rfl | (simp [errW_none, errW_some] <;> rfl) | (simp [*, errW_none, errW_some] <;> rfl), by repeat (first | (with_reducible first | exact HB.out | apply below_alloc | apply pw_below_drewN | apply below_drew1) | exact HB.out)⟩
                                      · rw [if_neg c50] at H
                                        have c50b0 : (((rd_T35 t305 x17_5).f1).toList == ((rd_T35 t309 x17_5).f1).toList) = false := beq_eq_false_iff_ne.mpr c50
                                        have c50b1 : (((rd_T35 t305 x17_5).f1).toList != ((rd_T35 t309 x17_5).f1).toList) = true := bne_iff_ne.mpr c50
                                        obtain rfl := Option.some.inj H
                                        obtain ⟨Ao65, co65, eo65⟩ := Kd.R_slice HO_13.out
                                        subst eo65
                                        have p313 : 0 ≤ (x17_5 : Int) := of_decide_eq_true (by first | (with_reducible assumption) | assumption)
                                        have q313 : x17_5 < (t305.length : Int) := of_decide_eq_true (by first | (with_reducible assumption) | assumption)
                                        obtain ⟨ad313, e313, hx313_0, hx313_1, hx313_2, hx313_3⟩ := at_T35 (Kd.R_reads' HO_13.out).2.2 x17_5 p313 q313
                                        cases e313
                                        replace p313 := eq_true p313
                                        replace q313 := eq_true q313
                                        obtain ⟨Ao66, co66, eo66⟩ := Kd.R_slice HO_15.out
                                        subst eo66
                                        have p314 : 0 ≤ (x17_5 : Int) := of_decide_eq_true (by first | (with_reducible assumption) | assumption)
                                        have q314 : x17_5 < (t309.length : Int) := of_decide_eq_true (by first | (with_reducible assumption) | assumption)
                                        obtain ⟨ad314, e314, hx314_0, hx314_1, hx314_2, hx314_3⟩ := at_T35 (Kd.R_reads' HO_15.out).2.2 x17_5 p314 q314
                                        cases e314
                                        replace p314 := eq_true p314
                                        replace q314 := eq_true q314
                                        have p315 : 0 ≤ (x17_5 : Int) := of_decide_eq_true (by first | (with_reducible assumption) | assumption)
                                        have q315 : x17_5 < (t305.length : Int) := of_decide_eq_true (by first | (with_reducible assumption) | assumption)
                                        obtain ⟨ad315, e315, hx315_0, hx315_1, hx315_2, hx315_3⟩ := at_T35 (Kd.R_reads' HO_13.out).2.2 x17_5 p315 q315
                                        obtain rfl : ad313 = ad315 := (by injection e315)
                                        replace p315 := eq_true p315
                                        replace q315 := eq_true q315
                                        have p316 : 0 ≤ (x17_5 : Int) := of_decide_eq_true (by first | (with_reducible assumption) | assumption)
                                        have q316 : x17_5 < (t309.length : Int) := of_decide_eq_true (by first | (with_reducible assumption) | assumption)
                                        obtain ⟨ad316, e316, hx316_0, hx316_1, hx316_2, hx316_3⟩ := at_T35 (Kd.R_reads' HO_15.out).2.2 x17_5 p316 q316
                                        obtain rfl : ad314 = ad316 := (by injection e316)
                                        replace p316 := eq_true p316
                                        replace q316 := eq_true q316
                                        go_wp2
                                        repeat (go_quiet (fail); try go_wp2)
                                        go_ret
                                        exact ⟨by first | rfl | (simp [errW_none, errW_some] <;> rfl) | (simp [*, errW_none, errW_some] <;> rfl), by repeat (first | (with_reducible first | exact HB.out | apply below_alloc | apply pw_below_drewN | apply below_drew1) | exact HB.out)⟩
                                    · rw [if_neg c49] at H
                                      have c49b0 : (((rd_T35 t305 x17_5).f0) == ((rd_T35 t309 x17_5).f0)) = false := beq_eq_false_iff_ne.mpr c49
                                      have c49b1 : (((rd_T35 t305 x17_5).f0) != ((rd_T35 t309 x17_5).f0)) = true := bne_iff_ne.mpr c49
                                      obtain rfl := Option.some.inj H
                                      obtain ⟨Ao67, co67, eo67⟩ := Kd.R_slice HO_13.out
                                      subst eo67
                                      have p313 : 0 ≤ (x17_5 : Int) := of_decide_eq_true (by first | (with_reducible assumption) | assumption)
                                      have q313 : x17_5 < (t305.length : Int) := of_decide_eq_true (by first | (with_reducible assumption) | assumption)
                                      obtain ⟨ad313, e313, hx313_0, hx313_1, hx313_2, hx313_3⟩ := at_T35 (Kd.R_reads' HO_13.out).2.2 x17_5 p313 q313
                                      cases e313
                                      replace p313 := eq_true p313
                                      replace q313 := eq_true q313
                                      obtain ⟨Ao68, co68, eo68⟩ := Kd.R_slice HO_15.out
                                      subst eo68
                                      have p314 : 0 ≤ (x17_5 : Int) := of_decide_eq_true (by first | (with_reducible assumption) | assumption)
                                      have q314 : x17_5 < (t309.length : Int) := of_decide_eq_true (by first | (with_reducible assumption) | assumption)
                                      obtain ⟨ad314, e314, hx314_0, hx314_1, hx314_2, hx314_3⟩ := at_T35 (Kd.R_reads' HO_15.out).2.2 x17_5 p314 q314
                                      cases e314
                                      replace p314 := eq_true p314
                                      replace q314 := eq_true q314
                                      go_wp2
                                      repeat (go_quiet (fail); try go_wp2)
                                      go_ret
                                      exact ⟨by first | rfl | (simp [errW_none, errW_some] <;> rfl) | (simp [*, errW_none, errW_some] <;> rfl), by repeat (first | (with_reducible first | exact HB.out | apply below_alloc | apply pw_below_drewN | apply below_drew1) | exact HB.out)⟩
                                  · rw [if_neg c48] at H
                                    exact absurd H (by simp)
                                · rw [if_neg c47] at H
                                  exact absurd H (by simp)
                              · rw [if_neg c46] at H
                                have c46b0 : decide (x17_5 < (t305.length : Int)) = false := decide_eq_false c46
                                clear c46
                                obtain rfl := Option.some.inj H
                                obtain ⟨Ao69, co69, eo69⟩ := Kd.R_slice HO_13.out
                                subst eo69
                                go_wp2
                                repeat (go_quiet (fail); try go_wp2)
                                go_ret
                                exact ⟨by first | rfl | (simp [errW_none, errW_some] <;> rfl) | (simp [*, errW_none, errW_some] <;> rfl), by repeat (first | (with_reducible first | exact HB.out | apply below_alloc | apply pw_below_drewN | apply below_drew1) | exact HB.out)⟩
  · replace c5 := Bool.eq_false_iff.mpr c5
    subst c5
    have H1 : (some false) = some r := by rw [if_neg (show ¬ (false = true) by decide)] at H; exact H
    clear H
    have H := H1
    clear H1
    obtain rfl := Option.some.inj H
    go_enter Tryd.func3, Tryd.ntmps3
    go_wp2_with (first | (go_at_call 8; (with_reducible refine (chancellaw4_known.calls k  false _ A4.out ?side1).mono ?_); (case side1 => exact Tb.below HT.out (by repeat (first | (with_reducible first | exact HB.out | apply below_alloc | apply pw_below_drewN | apply below_drew1) | exact HB.out))); rintro e w70 ⟨rfl, hb⟩; have n0_ := Aside0.mk (below_step (by repeat (first | (with_reducible first | exact HB.out | apply below_alloc | apply pw_below_drewN | apply below_drew1) | exact HB.out)) hb); clear HB; have HB := n0_; clear n0_; (try clear hb); (try clear hb2); (try clear hk); (try clear hi)))
    repeat (go_quiet (first | (go_at_call 8; (with_reducible refine (chancellaw4_known.calls k  false _ A4.out ?side1).mono ?_); (case side1 => exact Tb.below HT.out (by repeat (first | (with_reducible first | exact HB.out | apply below_alloc | apply pw_below_drewN | apply below_drew1) | exact HB.out))); rintro e w70 ⟨rfl, hb⟩; have n0_ := Aside0.mk (below_step (by repeat (first | (with_reducible first | exact HB.out | apply below_alloc | apply pw_below_drewN | apply below_drew1) | exact HB.out)) hb); clear HB; have HB := n0_; clear n0_; (try clear hb); (try clear hb2); (try clear hk); (try clear hi))); try go_wp2_with (first | (go_at_call 8; (with_reducible refine (chancellaw4_known.calls k  false _ A4.out ?side1).mono ?_); (case side1 => exact Tb.below HT.out (by repeat (first | (with_reducible first | exact HB.out | apply below_alloc | apply pw_below_drewN | apply below_drew1) | exact HB.out))); rintro e w70 ⟨rfl, hb⟩; have n0_ := Aside0.mk (below_step (by repeat (first | (with_reducible first | exact HB.out | apply below_alloc | apply pw_below_drewN | apply below_drew1) | exact HB.out)) hb); clear HB; have HB := n0_; clear n0_; (try clear hb); (try clear hb2); (try clear hk); (try clear hi))))
    go_ret
    exact ⟨by first | rfl | (simp [errW_none, errW_some] <;> rfl) | (simp [*, errW_none, errW_some] <;> rfl), by repeat (first | (with_reducible first | exact HB.out | apply below_alloc | apply pw_below_drewN | apply below_drew1) | exact HB.out)⟩

/-- THE ONE PURE STATEMENT of chancellaw4_LexBlanks: yours. -/
def chancellaw4_LexBlanks.Pure : Prop := ∀ (l0 : List Int) (l1 : List Int) (l2 : List Int), l0.length ≤ maxLen → l0.length * 8 ≤ 140737488351232 → (∀ x ∈ l0, (Lit.int .i64 x).wf = true) → l1.length ≤ maxLen → l1.length * 8 ≤ 140737488351232 → (∀ x ∈ l1, (Lit.int .i64 x).wf = true) → l2.length ≤ maxLen → l2.length * 8 ≤ 140737488351232 → (∀ x ∈ l2, (Lit.int .i64 x).wf = true) → ∃ k, chancellaw4_LexBlanks.f k l0 l1 l2 = some true
theorem chancellaw4_LexBlanks.walk (P : chancellaw4_LexBlanks.Pure) (a0 : Option Addr) (len0 cap0 : Nat) (z0 : List Int) (a1 : Option Addr) (len1 cap1 : Nat) (z1 : List Int) (a2 : Option Addr) (len2 cap2 : Nat) (z2 : List Int) (w : World) (w0 : (a0 = none ∧ len0 = 0 ∧ cap0 = 0 ∧ z0 = []) ∨ ∃ x, a0 = some x ∧ len0 ≤ cap0 ∧ cap0 ≤ maxLen ∧ z0.length = cap0 ∧ (∀ i, i < z0.length → w.cell? (x.add i) = some (.int .i64 (z0.getD i 0))) ∧ ∀ n ∈ z0, (Lit.int .i64 n).wf = true) (y0 : len0 * 8 ≤ 140737488351232) (w1 : (a1 = none ∧ len1 = 0 ∧ cap1 = 0 ∧ z1 = []) ∨ ∃ x, a1 = some x ∧ len1 ≤ cap1 ∧ cap1 ≤ maxLen ∧ z1.length = cap1 ∧ (∀ i, i < z1.length → w.cell? (x.add i) = some (.int .i64 (z1.getD i 0))) ∧ ∀ n ∈ z1, (Lit.int .i64 n).wf = true) (y1 : len1 * 8 ≤ 140737488351232) (w2 : (a2 = none ∧ len2 = 0 ∧ cap2 = 0 ∧ z2 = []) ∨ ∃ x, a2 = some x ∧ len2 ≤ cap2 ∧ cap2 ≤ maxLen ∧ z2.length = cap2 ∧ (∀ i, i < z2.length → w.cell? (x.add i) = some (.int .i64 (z2.getD i 0))) ∧ ∀ n ∈ z2, (Lit.int .i64 n).wf = true) (y2 : len2 * 8 ≤ 140737488351232) (hT : Tb w) :
    Calls Tryd.prog 3 #[.slice a0 len0 cap0, .slice a1 len1 cap1, .slice a2 len2 cap2] w fun e w' => e = .returned (.bool true) ∧ Below w.heap.size w w' := by
  obtain ⟨l0, rfl, hr0, hm0, hw0, hc0⟩ := ReadsInt.ofRowC w0
  obtain ⟨l1, rfl, hr1, hm1, hw1, hc1⟩ := ReadsInt.ofRowC w1
  obtain ⟨l2, rfl, hr2, hm2, hw2, hc2⟩ := ReadsInt.ofRowC w2
  obtain ⟨k, h⟩ := P l0 l1 l2 hm0 y0 hw0 hm1 y1 hw1 hm2 y2 hw2
  refine (chancellaw4_LexBlanks.calls k _ _ l0 _ _ l1 _ _ l2 true w (Kd.C_of_reads (d := (0 : Int)) (h1 := fun _ => rfl) hr0) hc0 (Kd.C_of_reads (d := (0 : Int)) (h1 := fun _ => rfl) hr1) hc1 (Kd.C_of_reads (d := (0 : Int)) (h1 := fun _ => rfl) hr2) hc2 h hT).mono ?_
  rintro e w' ⟨rfl, hd⟩
  exact ⟨rfl, hd⟩

end Go.Proofs.YtaiegjgbdfmfpaaDoor.GL
