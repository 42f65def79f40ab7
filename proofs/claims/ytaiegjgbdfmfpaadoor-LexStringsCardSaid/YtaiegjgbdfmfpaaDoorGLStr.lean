-- Written by wip/tools/cutlaw.py over gprint.py's text.
import Derived.Test.YtaiegjgbdfmfpaaDoorGL5
import Derived.Test.YtaiegjgbdfmfpaaDoorGL6
namespace Go.Proofs.YtaiegjgbdfmfpaaDoor.GL
open Go.RowKit Go.Proofs.YtaiegjgbdfmfpaaDoorW.PrintWords Go.Proofs.YtaiegjgbdfmfpaaDoorW.PrintLast Go.Proofs.YtaiegjgbdfmfpaaDoor.HandL Go.Proofs.YtaiegjgbdfmfpaaDoorW.PrintMore
attribute [local go_sem] max2_int min2_int max_two min_two max_three min_three max_four min_four   -- for this text's walks alone
set_option linter.unusedVariables false
set_option linter.unusedSimpArgs false

/-! ### chancellaw4_LexStrings: function 6 -/
def chancellaw4_LexStrings.l0 : Nat → List Int → ByteArray → List Int → Int → Option (Bool)
  | 0, _, _, _, _ => none
  | k + 1, x0, x5, x6, x7 => if x7 < (x0.length : Int) then (if 0 ≤ x7 then ((chancellaw4_within.f (rd x0 x7) 26).bind fun t228 => (if x6.length < 35184372088832 then (chancellaw4_LexStrings.l0 k x0 x5 (x6 ++ [wrap32 (wrap64 (97 + t228))]) (wrap64 (x7 + 1))) else (none))) else (none)) else ((chancelref1_Of.f k x6).bind fun bt232 => (if (wrap64 ((bt232.1.size : Int) + (x5.size : Int))) > 30 then (some true) else (if bt232.1.size + x5.size ≤ 9223372036854775807 then ((chancelref1_Quote.f k (bt232.1 ++ x5)).bind fun t234 => (if 1 + t234.size ≤ 9223372036854775807 then (if ((⟨#[32]⟩ : ByteArray) ++ t234).size + 10 ≤ 9223372036854775807 then ((lex_Tokens.f k (((⟨#[32]⟩ : ByteArray) ++ t234) ++ (⟨#[32, 47, 47, 32, 98, 101, 104, 105, 110, 100]⟩ : ByteArray))).bind fun bt235 => (if bt235.2 = 0 then (if (bt235.1.length : Int) = 1 then (if 0 < (bt235.1.length : Int) then (if ((rd_T35 bt235.1 0).f0) = 3 then (if ((rd_T35 bt235.1 0).f1).toList = (bt232.1 ++ x5).toList then (some (((rd_T35 bt235.1 0).f3) == 1)) else (some false)) else (some false)) else (none)) else (some false)) else (some false))) else (none)) else (none))) else (none))))
def chancellaw4_LexStrings.f (k : Nat) (l0 : List Int) (a1 : Int) : Option (Bool) := (chancellaw4_known.f k).bind fun t221 => (if t221 = true then ((some (([(⟨#[47, 47, 32, 110, 111]⟩ : ByteArray), (⟨#[32, 43, 32]⟩ : ByteArray), (⟨#[34]⟩ : ByteArray), (⟨#[97, 32, 98]⟩ : ByteArray), (⟨#[]⟩ : ByteArray)] : List ByteArray) : List ByteArray)).bind fun y222 => ((chancellaw4_within.f a1 5).bind fun t225 => (if 0 ≤ t225 then (if t225 < (y222.length : Int) then (chancellaw4_LexStrings.l0 k l0 (rdOf ByteArray.empty y222 t225) ([] : List Int) 0) else (none)) else (none)))) else (some false))
theorem chancellaw4_LexStrings.mono_l : ∀ k, (∀ y0 y1 y2 y3, LeO (chancellaw4_LexStrings.l0 k y0 y1 y2 y3) (chancellaw4_LexStrings.l0 (k + 1) y0 y1 y2 y3))
  | 0 => fun _ _ _ _ r h => by simp [chancellaw4_LexStrings.l0] at h
  | k + 1 => by
    have ih0 := chancellaw4_LexStrings.mono_l k
    · intro y0 y1 y2 y3
      unfold chancellaw4_LexStrings.l0
      repeat' first
      | (with_reducible exact ih0 _ _ _ _)
      | (with_reducible exact chancellaw4_known.mono _)
      | (with_reducible exact chancelref1_Of.mono _ _)
      | (with_reducible exact chancelref1_Quote.mono _ _)
      | (with_reducible exact lex_Tokens.mono _ _)
      | (with_reducible exact LeO.refl _)
      | (with_reducible exact LeO.none _)
      | (with_reducible refine LeO.ite ?_ ?_)
      | (with_reducible refine LeO.bind ?_ (fun _ => ?_))
      | exact ih0 _ _ _ _
      | exact chancellaw4_known.mono _
      | exact chancelref1_Of.mono _ _
      | exact chancelref1_Quote.mono _ _
      | exact lex_Tokens.mono _ _
      | exact LeO.none _
      | refine LeO.ite ?_ ?_
      | refine LeO.bind ?_ (fun _ => ?_)
theorem chancellaw4_LexStrings.mono : ∀ a0 a1 k, LeO (chancellaw4_LexStrings.f k a0 a1) (chancellaw4_LexStrings.f (k + 1) a0 a1) := by
  intro a0 a1 k
  have ih0 := chancellaw4_LexStrings.mono_l k
  unfold chancellaw4_LexStrings.f
  repeat' first
      | (with_reducible exact ih0 _ _ _ _)
      | (with_reducible exact chancellaw4_known.mono _)
      | (with_reducible exact chancelref1_Of.mono _ _)
      | (with_reducible exact chancelref1_Quote.mono _ _)
      | (with_reducible exact lex_Tokens.mono _ _)
      | (with_reducible exact LeO.refl _)
      | (with_reducible exact LeO.none _)
      | (with_reducible refine LeO.ite ?_ ?_)
      | (with_reducible refine LeO.bind ?_ (fun _ => ?_))
      | exact ih0 _ _ _ _
      | exact chancellaw4_known.mono _
      | exact chancelref1_Of.mono _ _
      | exact chancelref1_Quote.mono _ _
      | exact lex_Tokens.mono _ _
      | exact LeO.none _
      | refine LeO.ite ?_ ?_
      | refine LeO.bind ?_ (fun _ => ?_)
set_option maxHeartbeats 8000000 in
set_option maxRecDepth 100000 in
theorem chancellaw4_LexStrings.calls (k : Nat) (A0 : Option Addr) (c0 : Nat) (l0 : List Int) (a1 : Int) (r : Bool) (w : World) (hr0 : Kd.C (Kd.int .i64) w A0 l0.length l0) (hc0 : l0.length ≤ c0) (hm0 : l0.length ≤ 25) (h : chancellaw4_LexStrings.f k l0 a1 = some r) (hT : Tb w) :
    Calls Tryd.prog 6 #[.slice A0 l0.length c0, .int .i64 a1] w fun e w' => e = .returned (.bool r) ∧ Below w.heap.size w w' := by
  have hs1_ : decide (25 < (l0.length : Int)) = false := decide_eq_false (by omega)
  have hs2_ : decide (25 < l0.length) = false := decide_eq_false (by omega)
  have HR0 := Aside0.mk hr0
  have HC0 := Aside0.mk hc0
  clear hr0 hc0
  have HB := Aside0.mk (Below.refl w.heap.size w)
  have H : ((chancellaw4_known.f k).bind fun t221 => (if t221 = true then ((some (([(⟨#[47, 47, 32, 110, 111]⟩ : ByteArray), (⟨#[32, 43, 32]⟩ : ByteArray), (⟨#[34]⟩ : ByteArray), (⟨#[97, 32, 98]⟩ : ByteArray), (⟨#[]⟩ : ByteArray)] : List ByteArray) : List ByteArray)).bind fun y222 => ((chancellaw4_within.f a1 5).bind fun t225 => (if 0 ≤ t225 then (if t225 < (y222.length : Int) then (chancellaw4_LexStrings.l0 k l0 (rdOf ByteArray.empty y222 t225) ([] : List Int) 0) else (none)) else (none)))) else (some false))) = some r := h
  clear h
  have HT := Aside0.mk hT
  clear hT
  replace H := Option.bind_eq_some_iff.mp H
  obtain ⟨t221, A30, H⟩ := H
  replace H : (if t221 = true then ((some (([(⟨#[47, 47, 32, 110, 111]⟩ : ByteArray), (⟨#[32, 43, 32]⟩ : ByteArray), (⟨#[34]⟩ : ByteArray), (⟨#[97, 32, 98]⟩ : ByteArray), (⟨#[]⟩ : ByteArray)] : List ByteArray) : List ByteArray)).bind fun y222 => ((chancellaw4_within.f a1 5).bind fun t225 => (if 0 ≤ t225 then (if t225 < (y222.length : Int) then (chancellaw4_LexStrings.l0 k l0 (rdOf ByteArray.empty y222 t225) ([] : List Int) 0) else (none)) else (none)))) else (some false)) = some r := H
  have A3 := Aside0.mk A30
  clear A30
  by_cases c4 : t221 = true
  · subst c4
    have H1 : ((some (([(⟨#[47, 47, 32, 110, 111]⟩ : ByteArray), (⟨#[32, 43, 32]⟩ : ByteArray), (⟨#[34]⟩ : ByteArray), (⟨#[97, 32, 98]⟩ : ByteArray), (⟨#[]⟩ : ByteArray)] : List ByteArray) : List ByteArray)).bind fun y222 => ((chancellaw4_within.f a1 5).bind fun t225 => (if 0 ≤ t225 then (if t225 < (y222.length : Int) then (chancellaw4_LexStrings.l0 k l0 (rdOf ByteArray.empty y222 t225) ([] : List Int) 0) else (none)) else (none)))) = some r := by rw [if_pos rfl] at H; exact H
    clear H
    have H := H1
    clear H1
    obtain ⟨y222, hy222⟩ : ∃ y_ : List ByteArray, y_ = (([(⟨#[47, 47, 32, 110, 111]⟩ : ByteArray), (⟨#[32, 43, 32]⟩ : ByteArray), (⟨#[34]⟩ : ByteArray), (⟨#[97, 32, 98]⟩ : ByteArray), (⟨#[]⟩ : ByteArray)] : List ByteArray)) := ⟨_, rfl⟩
    replace H : ((chancellaw4_within.f a1 5).bind fun t225 => (if 0 ≤ t225 then (if t225 < (y222.length : Int) then (chancellaw4_LexStrings.l0 k l0 (rdOf ByteArray.empty y222 t225) ([] : List Int) 0) else (none)) else (none))) = some r := by first | (rw [hy222]; with_reducible exact H) | (have H2_ := (Option.bind_some _ _).symm.trans H; rw [hy222]; with_reducible exact H2_) | (have H2_ := (Option.bind_some _ _).symm.trans H; with_reducible exact H2_) | with_reducible exact H | (rw [hy222]; exact H) | exact H
    have Ny222 := Aside0.mk hy222
    clear hy222
    replace H := Option.bind_eq_some_iff.mp H
    obtain ⟨t225, A50, H⟩ := H
    replace H : (if 0 ≤ t225 then (if t225 < (y222.length : Int) then (chancellaw4_LexStrings.l0 k l0 (rdOf ByteArray.empty y222 t225) ([] : List Int) 0) else (none)) else (none)) = some r := H
    have A5 := Aside0.mk A50
    clear A50
    by_cases c6 : 0 ≤ t225
    · rw [if_pos c6] at H
      have c6b0 : decide (0 ≤ t225) = true := decide_eq_true c6
      clear c6
      by_cases c7 : t225 < (y222.length : Int)
      · rw [if_pos c7] at H
        have c7b0 : decide (t225 < (y222.length : Int)) = true := decide_eq_true c7
        clear c7
        have H' := Aside0.mk H
        clear H
        go_enter Tryd.func6, Tryd.ntmps6
        go_wp2_with (first | ((with_reducible refine gate_callee (f := 8) rfl ?_); refine goesL_ (some 12) rfl rfl Tryd.func8 (by kernel_rfl) rfl #[] rfl (by (try simp only [List.map_toArray, List.map_cons, List.map_nil]); first | done | rfl | (simp only [List.length_drop, List.length_take]; rfl)) ?_; (with_reducible refine (chancellaw4_known.calls k  true _ A3.out ?side1).mono ?_); (case side1 => exact Tb.below HT.out (by repeat (first | (with_reducible first | exact HB.out | apply below_alloc | apply pw_below_drewN | apply below_drew1) | exact HB.out))); rintro e w8 ⟨rfl, hb⟩; refine ⟨_, rfl, ?_⟩; have n0_ := Aside0.mk (below_step (by repeat (first | (with_reducible first | exact HB.out | apply below_alloc | apply pw_below_drewN | apply below_drew1) | exact HB.out)) hb); clear HB; have HB := n0_; clear n0_; (try clear hb); (try clear hb2); (try clear hk); (try clear hi)) | ((with_reducible refine gate_dst (N := 19) rfl ?_); (try (refine gate_guard (by rfl) ?_; dsimp only)); refine Kd.R_lit Kd.string _ 9 ?hg (N := 19) ?hd (xs := ([(⟨#[47, 47, 32, 110, 111]⟩ : ByteArray), (⟨#[32, 43, 32]⟩ : ByteArray), (⟨#[34]⟩ : ByteArray), (⟨#[97, 32, 98]⟩ : ByteArray), (⟨#[]⟩ : ByteArray)] : List ByteArray)) (inner := [.string (⟨#[47, 47, 32, 110, 111]⟩ : ByteArray), .string (⟨#[32, 43, 32]⟩ : ByteArray), .string (⟨#[34]⟩ : ByteArray), .string (⟨#[97, 32, 98]⟩ : ByteArray), .string (⟨#[]⟩ : ByteArray)]) (ok := fun _ => True) (okp := fun _ => True) ?hr ?hp (fun _ hk => hk) trivial (Below.refl _ _) (Nat.le_refl _) (by simp) ?_; (case hd => rfl); (case hg => rfl); (case hr => first | (go_simp; done) | (go_simp; rfl)); (case hp => exact (Reps.one (show Kd.M Kd.string _ _ _ (⟨#[47, 47, 32, 110, 111]⟩ : ByteArray) [.string (⟨#[47, 47, 32, 110, 111]⟩ : ByteArray)] from rfl) (Reps.one (show Kd.M Kd.string _ _ _ (⟨#[32, 43, 32]⟩ : ByteArray) [.string (⟨#[32, 43, 32]⟩ : ByteArray)] from rfl) (Reps.one (show Kd.M Kd.string _ _ _ (⟨#[34]⟩ : ByteArray) [.string (⟨#[34]⟩ : ByteArray)] from rfl) (Reps.one (show Kd.M Kd.string _ _ _ (⟨#[97, 32, 98]⟩ : ByteArray) [.string (⟨#[97, 32, 98]⟩ : ByteArray)] from rfl) (Reps.one (show Kd.M Kd.string _ _ _ (⟨#[]⟩ : ByteArray) [.string (⟨#[]⟩ : ByteArray)] from rfl) (Reps.none _ _))))))); intro v223 w9 ho10 hb hg_ hnew_; clear hg_ hnew_; (first | rw [← Ny222.out] at ho10 | (simp only [Int.reduceToNat] at ho10; rw [← Ny222.out] at ho10)); have n0_ := Aside0.mk (Kd.R_lower ho10 (below_size (by repeat (first | (with_reducible first | exact HB.out | apply below_alloc | apply pw_below_drewN | apply below_drew1) | exact HB.out)))); have n1_ := Aside0.mk (below_step (by repeat (first | (with_reducible first | exact HB.out | apply below_alloc | apply pw_below_drewN | apply below_drew1) | exact HB.out)) hb); clear HB; have HO224 := n0_; have HB := n1_; clear n0_ n1_; clear hb ho10) | ((with_reducible refine gate_callee (f := 11) rfl ?_); refine goesL_ (some 21) rfl rfl Tryd.func11 (by kernel_rfl) rfl #[.int .i64 a1, .int .i64 5] rfl (by (try simp only [List.map_toArray, List.map_cons, List.map_nil]); first | done | rfl | (simp only [List.length_drop, List.length_take]; rfl)) ?_; (with_reducible refine (chancellaw4_within.calls a1 5 t225 _ A5.out).mono ?_); rintro e w' ⟨rfl, ⟨nd, rfl⟩⟩; refine ⟨_, rfl, ?_⟩; obtain ⟨Ao11, co11, eo11⟩ := Kd.R_slice HO224.out; subst eo11; have p226 : 0 ≤ (t225 : Int) := of_decide_eq_true (by first | (with_reducible assumption) | assumption); have q226 : t225 < (y222.length : Int) := of_decide_eq_true (by first | (with_reducible assumption) | assumption); obtain ⟨ad226, e226, hx226_0⟩ := Kd.at_string (Kd.R_reads' HO224.out).2.2 t225 p226 q226; cases e226; replace p226 := eq_true p226; replace q226 := eq_true q226))
        go_loopg [6, 7] k (fun kq v6 v7 w' => ∃ (x6_1 : List Int) (x7_1 : Int), v7 = .int .i64 x7_1 ∧ Aside0 (chancellaw4_LexStrings.l0 kq l0 (rdOf ByteArray.empty y222 t225) x6_1 x7_1 = some r) ∧ Aside0 (kq ≤ k) ∧ Aside0 (Kd.R (Kd.int .i32) 21 w' w.heap.size (fun _ => True) v6 x6_1) ∧ Aside0 (Below w.heap.size w w'))
        case atStart => exact ⟨(([] : List Int)), (0), (by first | rfl | (simp; done) | (simp [*]; done)), H', ⟨Nat.le_refl _⟩, ⟨by first | exact Kd.R_nil _ _ _ _ _ | exact Kd.N_nil _ _ _ _ _ | exact Kd.V_nil _ _ _ _ _ | exact Kd.Q_nil _ _ _ _ _ | exact Kd.S_nil _ _ _ _ _⟩, ⟨by repeat (first | (with_reducible first | exact HB.out | apply below_alloc | apply pw_below_drewN | apply below_drew1) | exact HB.out)⟩⟩
        case round =>
          clear H'
          try clear c1
          try clear p2
          try clear q2
          try clear hx2
          try clear c4
          try clear c6
          try clear c6b0
          try clear c7
          try clear c7b0
          try clear c8
          try clear c11
          try clear hx226_0
          try clear p226
          try clear q226
          obtain ⟨x6_1, x7_1, rfl, HA, HK1, HO_6, HB⟩ := hrel
          cases gk with
          | zero => exact absurd HA.out (by simp [chancellaw4_LexStrings.l0])
          | succ k1 =>
            have H := HA.out
            clear HA
            simp only [chancellaw4_LexStrings.l0] at H
            by_cases c12 : x7_1 < (l0.length : Int)
            · rw [if_pos c12] at H
              have c12b0 : decide (x7_1 < (l0.length : Int)) = true := decide_eq_true c12
              clear c12
              by_cases c13 : 0 ≤ x7_1
              · rw [if_pos c13] at H
                have c13b0 : decide (0 ≤ x7_1) = true := decide_eq_true c13
                clear c13
                replace H := Option.bind_eq_some_iff.mp H
                obtain ⟨t228, A140, H⟩ := H
                replace H : (if x6_1.length < 35184372088832 then (chancellaw4_LexStrings.l0 k1 l0 (rdOf ByteArray.empty y222 t225) (x6_1 ++ [wrap32 (wrap64 (97 + t228))]) (wrap64 (x7_1 + 1))) else (none)) = some r := H
                have A14 := Aside0.mk A140
                clear A140
                by_cases c15 : x6_1.length < 35184372088832
                · rw [if_pos c15] at H
                  have LMc15 := Aside0.mk c15
                  clear c15
                  obtain ⟨y229, hy229⟩ : ∃ y_ : List Int, y_ = (x6_1 ++ [wrap32 (wrap64 (97 + t228))]) := ⟨_, rfl⟩
                  replace H : (chancellaw4_LexStrings.l0 k1 l0 (rdOf ByteArray.empty y222 t225) y229 (wrap64 (x7_1 + 1))) = some r := by first | (rw [hy229]; with_reducible exact H) | (have H2_ := (Option.bind_some _ _).symm.trans H; rw [hy229]; with_reducible exact H2_) | (have H2_ := (Option.bind_some _ _).symm.trans H; with_reducible exact H2_) | with_reducible exact H | (rw [hy229]; exact H) | exact H
                  have Ny229 := Aside0.mk hy229
                  clear hy229
                  have H' := Aside0.mk H
                  clear H
                  have p227 : 0 ≤ (x7_1 : Int) := of_decide_eq_true (by first | (with_reducible assumption) | assumption)
                  have q227 : x7_1 < (l0.length : Int) := of_decide_eq_true (by first | (with_reducible assumption) | assumption)
                  obtain ⟨ad227, e227, hx227_0⟩ := Kd.at_int HR0.out x7_1 p227 q227
                  cases e227
                  replace hx227_0 := (HB.out.cell (World.block_lt_of_cell? w _ hx227_0)).trans hx227_0
                  replace p227 := eq_true p227
                  replace q227 := eq_true q227
                  go_wp2_with (first | ((with_reducible refine gate_callee (f := 11) rfl ?_); refine goesL_ (some 35) rfl rfl Tryd.func11 (by kernel_rfl) rfl #[.int .i64 (rd l0 x7_1), .int .i64 26] rfl (by (try simp only [List.map_toArray, List.map_cons, List.map_nil]); first | done | rfl | (simp only [List.length_drop, List.length_take]; rfl)) ?_; (with_reducible refine (chancellaw4_within.calls (rd l0 x7_1) 26 t228 _ A14.out).mono ?_); rintro e w' ⟨rfl, ⟨nd, rfl⟩⟩; refine ⟨_, rfl, ?_⟩) | ((with_reducible refine gate_builtin (b := .append) (xs := #[.tmp 30, .tmp 38]) rfl ?_); (try (refine gate_guard (by rfl) ?_; dsimp only)); at_builtin; refine Kd.R_append (Kd.int .i32) (w0 := w) w.heap.size rfl (.tmp 30) (.tmp 38) 42 21 (.int .i32 0) 4 rfl Tryd.underlying42 info21 rfl (by decide) (by omega) u6 x6_1 (wrap32 (wrap64 (97 + t228))) [.int .i32 (wrap32 (wrap64 (97 + t228)))] (fun _ => True) (fun _ => False) rfl rfl ?aP (fun _ hk => hk.elim) ?aF ?aO ?aB ?aS ?aL ?_; (case aP => exact rfl); (case aB => exact (by repeat (first | (with_reducible first | exact HB.out | apply below_alloc | apply pw_below_drewN | apply below_drew1) | exact HB.out))); (case aF => exact (fun _ _ => trivial)); (case aO => exact (by (with_reducible repeat (first | apply Kd.R_alloc | apply Kd.R_drewN | apply Kd.R_drew)); exact HO_6.out)); (case aS => exact (below_size (by repeat (first | (with_reducible first | exact HB.out | apply below_alloc | apply pw_below_drewN | apply below_drew1) | exact HB.out)))); (case aL => have := LMc15.out; omega); intro v230 w16 ho hb hg hat; rw [← Ny229.out] at ho; have n0_ := Aside0.mk (hb); have n1_ := Aside0.mk (ho); clear HB; clear HO_6; have HB := n0_; have HO231 := n1_; clear n0_ n1_; clear ho hb hg hat))
                  go_roundg k1
                  case measure => have := HK1.out; omega
                  case rel => exact ⟨(y229), (wrap64 (x7_1 + 1)), (by first | rfl | (simp; done) | (simp [*]; done)), H', ⟨by have := HK1.out; omega⟩, ⟨by (with_reducible repeat (first | apply Kd.R_alloc | apply Kd.R_drewN | apply Kd.R_drew)); exact HO231.out⟩, ⟨by repeat (first | (with_reducible first | exact HB.out | apply below_alloc | apply pw_below_drewN | apply below_drew1) | exact HB.out)⟩⟩
                · rw [if_neg c15] at H
                  exact absurd H (by simp)
              · rw [if_neg c13] at H
                exact absurd H (by simp)
            · rw [if_neg c12] at H
              have c12b0 : decide (x7_1 < (l0.length : Int)) = false := decide_eq_false c12
              clear c12
              replace H := Option.bind_eq_some_iff.mp H
              obtain ⟨⟨t232, t233⟩, A170, H⟩ := H
              replace H : (if (wrap64 ((t232.size : Int) + ((rdOf ByteArray.empty y222 t225).size : Int))) > 30 then (some true) else (if t232.size + (rdOf ByteArray.empty y222 t225).size ≤ 9223372036854775807 then ((chancelref1_Quote.f k1 (t232 ++ (rdOf ByteArray.empty y222 t225))).bind fun t234 => (if 1 + t234.size ≤ 9223372036854775807 then (if ((⟨#[32]⟩ : ByteArray) ++ t234).size + 10 ≤ 9223372036854775807 then ((lex_Tokens.f k1 (((⟨#[32]⟩ : ByteArray) ++ t234) ++ (⟨#[32, 47, 47, 32, 98, 101, 104, 105, 110, 100]⟩ : ByteArray))).bind fun bt235 => (if bt235.2 = 0 then (if (bt235.1.length : Int) = 1 then (if 0 < (bt235.1.length : Int) then (if ((rd_T35 bt235.1 0).f0) = 3 then (if ((rd_T35 bt235.1 0).f1).toList = (t232 ++ (rdOf ByteArray.empty y222 t225)).toList then (some (((rd_T35 bt235.1 0).f3) == 1)) else (some false)) else (some false)) else (none)) else (some false)) else (some false))) else (none)) else (none))) else (none))) = some r := H
              have A17 := Aside0.mk A170
              clear A170
              by_cases c18 : (wrap64 ((t232.size : Int) + ((rdOf ByteArray.empty y222 t225).size : Int))) > 30
              · rw [if_pos c18] at H
                have c18b0 : decide (30 < (wrap64 ((t232.size : Int) + ((rdOf ByteArray.empty y222 t225).size : Int)))) = true := decide_eq_true c18
                clear c18
                obtain rfl := Option.some.inj H
                obtain ⟨Ao19, co19, eo19⟩ := Kd.R_slice HO_6.out
                subst eo19
                go_wp2_with (first | ((with_reducible refine gate_callee (f := 16) rfl ?_); refine goesL_ (some 42) rfl rfl Tryd.func16 (by kernel_rfl) rfl #[.slice Ao19 x6_1.length co19] rfl (by (try simp only [List.map_toArray, List.map_cons, List.map_nil]); first | done | rfl | (simp only [List.length_drop, List.length_take]; rfl)) ?_; (with_reducible refine (chancelref1_Of.calls k1 _ _ x6_1 t232 t233 _ ?side1 ?side2 A17.out).mono ?_); (case side1 => repeat (first | exact (Kd.R_reads' HO_6.out).2.2 | (with_reducible refine Kd.C_alloc ?_ _) | (with_reducible refine Kd.C_drewN ?_ _) | (with_reducible refine Kd.C_drew ?_))); (case side2 => exact (Kd.R_reads' HO_6.out).2.1); rintro e w20 ⟨rfl, hb⟩; refine ⟨_, rfl, ?_⟩; have n0_ := Aside0.mk (Kd.R_below (by (with_reducible repeat (first | apply Kd.R_alloc | apply Kd.R_drewN | apply Kd.R_drew)); exact HO_6.out) hb); have n1_ := Aside0.mk (below_step (by repeat (first | (with_reducible first | exact HB.out | apply below_alloc | apply pw_below_drewN | apply below_drew1) | exact HB.out)) hb); clear HO_6; clear HB; have HO_6 := n0_; have HB := n1_; clear n0_ n1_; (try clear hb); (try clear hb2); (try clear hk); (try clear hi)))
                go_ret
                exact ⟨by first | rfl | (simp [errW_none, errW_some] <;> rfl) | (simp [*, errW_none, errW_some] <;> rfl), by repeat (first | (with_reducible first | exact HB.out | apply below_alloc | apply pw_below_drewN | apply below_drew1) | exact HB.out)⟩
              · rw [if_neg c18] at H
                have c18b0 : decide (30 < (wrap64 ((t232.size : Int) + ((rdOf ByteArray.empty y222 t225).size : Int)))) = false := decide_eq_false c18
                clear c18
                by_cases c21 : t232.size + (rdOf ByteArray.empty y222 t225).size ≤ 9223372036854775807
                · rw [if_pos c21] at H
                  have c21b0 := eq_true c21
                  have c21b1 : decide (t232.size + (rdOf ByteArray.empty y222 t225).size ≤ 9223372036854775807) = true := decide_eq_true c21
                  have c21y_ : decide (30 < ((t232.size : Int) + ((rdOf ByteArray.empty y222 t225).size : Int))) = false := by have e_ := c18b0; rw [show wrap64 ((t232.size : Int) + ((rdOf ByteArray.empty y222 t225).size : Int)) = (t232.size : Int) + ((rdOf ByteArray.empty y222 t225).size : Int) by unfold wrap64; omega] at e_; exact e_
                  try have c21b2 : (9223372036854775807 < t232.size + (rdOf ByteArray.empty y222 t225).size) = False := eq_false (Nat.not_lt.2 c21)
                  replace H := Option.bind_eq_some_iff.mp H
                  obtain ⟨t234, A220, H⟩ := H
                  replace H : (if 1 + t234.size ≤ 9223372036854775807 then (if ((⟨#[32]⟩ : ByteArray) ++ t234).size + 10 ≤ 9223372036854775807 then ((lex_Tokens.f k1 (((⟨#[32]⟩ : ByteArray) ++ t234) ++ (⟨#[32, 47, 47, 32, 98, 101, 104, 105, 110, 100]⟩ : ByteArray))).bind fun bt235 => (if bt235.2 = 0 then (if (bt235.1.length : Int) = 1 then (if 0 < (bt235.1.length : Int) then (if ((rd_T35 bt235.1 0).f0) = 3 then (if ((rd_T35 bt235.1 0).f1).toList = (t232 ++ (rdOf ByteArray.empty y222 t225)).toList then (some (((rd_T35 bt235.1 0).f3) == 1)) else (some false)) else (some false)) else (none)) else (some false)) else (some false))) else (none)) else (none)) = some r := H
                  have A22 := Aside0.mk A220
                  clear A220
                  by_cases c23 : 1 + t234.size ≤ 9223372036854775807
                  · rw [if_pos c23] at H
                    have c23b0 := eq_true c23
                    have c23b1 : decide (1 + t234.size ≤ 9223372036854775807) = true := decide_eq_true c23
                    try have c23b2 : (9223372036854775807 < 1 + t234.size) = False := eq_false (Nat.not_lt.2 c23)
                    by_cases c24 : ((⟨#[32]⟩ : ByteArray) ++ t234).size + 10 ≤ 9223372036854775807
                    · rw [if_pos c24] at H
                      have c24b0 := eq_true c24
                      have c24b1 : decide (((⟨#[32]⟩ : ByteArray) ++ t234).size + 10 ≤ 9223372036854775807) = true := decide_eq_true c24
                      (try (have c24e_ : ((⟨#[32]⟩ : ByteArray) ++ t234).size + 10 = 1 + t234.size + 10 := (by simp only [ByteArray.size_append] <;> rfl); have c24f_ : (9223372036854775807 < 1 + t234.size + 10) = False := eq_false (by omega); have c24g_ : (1 + t234.size + 10 ≤ 9223372036854775807) = True := eq_true (by omega)))
                      try have c24b2 : (9223372036854775807 < ((⟨#[32]⟩ : ByteArray) ++ t234).size + 10) = False := eq_false (Nat.not_lt.2 c24)
                      replace H := Option.bind_eq_some_iff.mp H
                      obtain ⟨⟨t235, t236⟩, A250, H⟩ := H
                      replace H : (if t236 = 0 then (if (t235.length : Int) = 1 then (if 0 < (t235.length : Int) then (if ((rd_T35 t235 0).f0) = 3 then (if ((rd_T35 t235 0).f1).toList = (t232 ++ (rdOf ByteArray.empty y222 t225)).toList then (some (((rd_T35 t235 0).f3) == 1)) else (some false)) else (some false)) else (none)) else (some false)) else (some false)) = some r := H
                      have A25 := Aside0.mk A250
                      clear A250
                      by_cases c26 : t236 = 0
                      · rw [if_pos c26] at H
                        have c26b0 : (t236 == 0) = true := beq_iff_eq.mpr c26
                        have c26b1 : (t236 != 0) = false := bne_eq_false_iff_eq.mpr c26
                        clear c26
                        by_cases c27 : (t235.length : Int) = 1
                        · rw [if_pos c27] at H
                          have c27b0 : ((t235.length : Int) == 1) = true := beq_iff_eq.mpr c27
                          have c27b1 : ((t235.length : Int) != 1) = false := bne_eq_false_iff_eq.mpr c27
                          clear c27
                          by_cases c28 : 0 < (t235.length : Int)
                          · rw [if_pos c28] at H
                            have c28b0 : decide (0 < (t235.length : Int)) = true := decide_eq_true c28
                            have c28b1 : decide (0 < t235.length) = true := decide_eq_true (by omega)
                            clear c28
                            by_cases c29 : ((rd_T35 t235 0).f0) = 3
                            · rw [if_pos c29] at H
                              have c29b0 : (((rd_T35 t235 0).f0) == 3) = true := beq_iff_eq.mpr c29
                              have c29b1 : (((rd_T35 t235 0).f0) != 3) = false := bne_eq_false_iff_eq.mpr c29
                              clear c29
                              by_cases c30 : ((rd_T35 t235 0).f1).toList = (t232 ++ (rdOf ByteArray.empty y222 t225)).toList
                              · rw [if_pos c30] at H
                                have c30b0 : (((rd_T35 t235 0).f1).toList == (t232 ++ (rdOf ByteArray.empty y222 t225)).toList) = true := beq_iff_eq.mpr c30
                                have c30b1 : (((rd_T35 t235 0).f1).toList != (t232 ++ (rdOf ByteArray.empty y222 t225)).toList) = false := bne_eq_false_iff_eq.mpr c30
                                clear c30
                                obtain rfl := Option.some.inj H
                                obtain ⟨Ao31, co31, eo31⟩ := Kd.R_slice HO_6.out
                                subst eo31
                                go_wp2_with (first | ((with_reducible refine gate_callee (f := 16) rfl ?_); refine goesL_ (some 42) rfl rfl Tryd.func16 (by kernel_rfl) rfl #[.slice Ao31 x6_1.length co31] rfl (by (try simp only [List.map_toArray, List.map_cons, List.map_nil]); first | done | rfl | (simp only [List.length_drop, List.length_take]; rfl)) ?_; (with_reducible refine (chancelref1_Of.calls k1 _ _ x6_1 t232 t233 _ ?side1 ?side2 A17.out).mono ?_); (case side1 => repeat (first | exact (Kd.R_reads' HO_6.out).2.2 | (with_reducible refine Kd.C_alloc ?_ _) | (with_reducible refine Kd.C_drewN ?_ _) | (with_reducible refine Kd.C_drew ?_))); (case side2 => exact (Kd.R_reads' HO_6.out).2.1); rintro e w32 ⟨rfl, hb⟩; refine ⟨_, rfl, ?_⟩; have n0_ := Aside0.mk (Kd.R_below (by (with_reducible repeat (first | apply Kd.R_alloc | apply Kd.R_drewN | apply Kd.R_drew)); exact HO_6.out) hb); have n1_ := Aside0.mk (below_step (by repeat (first | (with_reducible first | exact HB.out | apply below_alloc | apply pw_below_drewN | apply below_drew1) | exact HB.out)) hb); clear HO_6; clear HB; have HO_6 := n0_; have HB := n1_; clear n0_ n1_; (try clear hb); (try clear hb2); (try clear hk); (try clear hi)) | ((with_reducible refine gate_callee (f := 13) rfl ?_); refine goesL_ (some 55) rfl rfl Tryd.func13 (by kernel_rfl) rfl #[.string (t232 ++ (rdOf ByteArray.empty y222 t225))] rfl (by (try simp only [List.map_toArray, List.map_cons, List.map_nil]); first | done | rfl | (simp only [List.length_drop, List.length_take]; rfl)) ?_; (with_reducible refine (chancelref1_Quote.calls k1 (t232 ++ (rdOf ByteArray.empty y222 t225)) t234 _ A22.out).mono ?_); rintro e w' ⟨rfl, ⟨nd, rfl⟩⟩; refine ⟨_, rfl, ?_⟩) | ((with_reducible refine gate_callee (f := 12) rfl ?_); refine goesL_ (some 58) rfl rfl Tryd.func12 (by kernel_rfl) rfl #[.string (((⟨#[32]⟩ : ByteArray) ++ t234) ++ (⟨#[32, 47, 47, 32, 98, 101, 104, 105, 110, 100]⟩ : ByteArray))] rfl (by (try simp only [List.map_toArray, List.map_cons, List.map_nil]); first | done | rfl | (simp only [List.length_drop, List.length_take]; rfl)) ?_; (with_reducible refine (lex_Tokens.calls k1 (((⟨#[32]⟩ : ByteArray) ++ t234) ++ (⟨#[32, 47, 47, 32, 98, 101, 104, 105, 110, 100]⟩ : ByteArray)) t235 t236 _ A25.out ?side1).mono ?_); (case side1 => exact Tb.below HT.out (by repeat (first | (with_reducible first | exact HB.out | apply below_alloc | apply pw_below_drewN | apply below_drew1) | exact HB.out))); rintro e w33 ⟨v237, rfl, ho0, hb⟩; refine ⟨_, rfl, ?_⟩; have n0_ := Aside0.mk (Kd.R_below (by (with_reducible repeat (first | apply Kd.R_alloc | apply Kd.R_drewN | apply Kd.R_drew)); exact HO_6.out) hb); have n1_ := Aside0.mk (Kd.R_lower ho0 (below_size (by repeat (first | (with_reducible first | exact HB.out | apply below_alloc | apply pw_below_drewN | apply below_drew1) | exact HB.out)))); have n2_ := Aside0.mk (below_step (by repeat (first | (with_reducible first | exact HB.out | apply below_alloc | apply pw_below_drewN | apply below_drew1) | exact HB.out)) hb); clear HO_6; clear HB; have HO_6 := n0_; have HO238 := n1_; have HB := n2_; clear n0_ n1_ n2_; (try clear hb); (try clear hb2); (try clear hk); (try clear hi); (try clear ho0); obtain ⟨Ao34, co34, eo34⟩ := Kd.R_slice HO238.out; subst eo34; have p239 : 0 ≤ (0 : Int) := (by omega); have q239 : 0 < (t235.length : Int) := of_decide_eq_true (by first | (with_reducible assumption) | assumption); obtain ⟨ad239, e239, hx239_0, hx239_1, hx239_2, hx239_3⟩ := at_T35 (Kd.R_reads' HO238.out).2.2 0 p239 q239; cases e239; have qi239 : (0 < t235.length) = True := eq_true (by omega); (try rw [show ((0 : Int)).toNat = 0 from rfl] at hx239_0); (try rw [show 0 * 4 = 0 from rfl] at hx239_0); (try rw [Addr.add_zero'] at hx239_0); (try rw [show ((0 : Int)).toNat = 0 from rfl] at hx239_1); (try rw [show 0 * 4 = 0 from rfl] at hx239_1); (try rw [Addr.add_zero'] at hx239_1); (try rw [show ((0 : Int)).toNat = 0 from rfl] at hx239_2); (try rw [show 0 * 4 = 0 from rfl] at hx239_2); (try rw [Addr.add_zero'] at hx239_2); (try rw [show ((0 : Int)).toNat = 0 from rfl] at hx239_3); (try rw [show 0 * 4 = 0 from rfl] at hx239_3); (try rw [Addr.add_zero'] at hx239_3); replace p239 := eq_true p239; replace q239 := eq_true q239; have p240 : 0 ≤ (0 : Int) := (by omega); have q240 : 0 < (t235.length : Int) := of_decide_eq_true (by first | (with_reducible assumption) | assumption); obtain ⟨ad240, e240, hx240_0, hx240_1, hx240_2, hx240_3⟩ := at_T35 (Kd.R_reads' HO238.out).2.2 0 p240 q240; obtain rfl : ad239 = ad240 := (by injection e240); have qi240 : (0 < t235.length) = True := eq_true (by omega); (try rw [show ((0 : Int)).toNat = 0 from rfl] at hx240_0); (try rw [show 0 * 4 = 0 from rfl] at hx240_0); (try rw [Addr.add_zero'] at hx240_0); (try rw [show ((0 : Int)).toNat = 0 from rfl] at hx240_1); (try rw [show 0 * 4 = 0 from rfl] at hx240_1); (try rw [Addr.add_zero'] at hx240_1); (try rw [show ((0 : Int)).toNat = 0 from rfl] at hx240_2); (try rw [show 0 * 4 = 0 from rfl] at hx240_2); (try rw [Addr.add_zero'] at hx240_2); (try rw [show ((0 : Int)).toNat = 0 from rfl] at hx240_3); (try rw [show 0 * 4 = 0 from rfl] at hx240_3); (try rw [Addr.add_zero'] at hx240_3); replace p240 := eq_true p240; replace q240 := eq_true q240; have p241 : 0 ≤ (0 : Int) := (by omega); have q241 : 0 < (t235.length : Int) := of_decide_eq_true (by first | (with_reducible assumption) | assumption); obtain ⟨ad241, e241, hx241_0, hx241_1, hx241_2, hx241_3⟩ := at_T35 (Kd.R_reads' HO238.out).2.2 0 p241 q241; obtain rfl : ad239 = ad241 := (by injection e241); have qi241 : (0 < t235.length) = True := eq_true (by omega); (try rw [show ((0 : Int)).toNat = 0 from rfl] at hx241_0); (try rw [show 0 * 4 = 0 from rfl] at hx241_0); (try rw [Addr.add_zero'] at hx241_0); (try rw [show ((0 : Int)).toNat = 0 from rfl] at hx241_1); (try rw [show 0 * 4 = 0 from rfl] at hx241_1); (try rw [Addr.add_zero'] at hx241_1); (try rw [show ((0 : Int)).toNat = 0 from rfl] at hx241_2); (try rw [show 0 * 4 = 0 from rfl] at hx241_2); (try rw [Addr.add_zero'] at hx241_2); (try rw [show ((0 : Int)).toNat = 0 from rfl] at hx241_3); (try rw [show 0 * 4 = 0 from rfl] at hx241_3); (try rw [Addr.add_zero'] at hx241_3); replace p241 := eq_true p241; replace q241 := eq_true q241))
                                go_ret
                                exact ⟨by first | rfl | (simp [errW_none, errW_some] <;> rfl) | (simp [*, errW_none, errW_some] <;> rfl), by repeat (first | (with_reducible first | exact HB.out | apply below_alloc | apply pw_below_drewN | apply below_drew1) | exact HB.out)⟩
                              · rw [if_neg c30] at H
                                have c30b0 : (((rd_T35 t235 0).f1).toList == (t232 ++ (rdOf ByteArray.empty y222 t225)).toList) = false := beq_eq_false_iff_ne.mpr c30
                                have c30b1 : (((rd_T35 t235 0).f1).toList != (t232 ++ (rdOf ByteArray.empty y222 t225)).toList) = true := bne_iff_ne.mpr c30
                                obtain rfl := Option.some.inj H
                                obtain ⟨Ao35, co35, eo35⟩ := Kd.R_slice HO_6.out
                                subst eo35
                                go_wp2_with (first | ((with_reducible refine gate_callee (f := 16) rfl ?_); refine goesL_ (some 42) rfl rfl Tryd.func16 (by kernel_rfl) rfl #[.slice Ao35 x6_1.length co35] rfl (by (try simp only [List.map_toArray, List.map_cons, List.map_nil]); first | done | rfl | (simp only [List.length_drop, List.length_take]; rfl)) ?_; (with_reducible refine (chancelref1_Of.calls k1 _ _ x6_1 t232 t233 _ ?side1 ?side2 A17.out).mono ?_); (case side1 => repeat (first | exact (Kd.R_reads' HO_6.out).2.2 | (with_reducible refine Kd.C_alloc ?_ _) | (with_reducible refine Kd.C_drewN ?_ _) | (with_reducible refine Kd.C_drew ?_))); (case side2 => exact (Kd.R_reads' HO_6.out).2.1); rintro e w36 ⟨rfl, hb⟩; refine ⟨_, rfl, ?_⟩; have n0_ := Aside0.mk (Kd.R_below (by (with_reducible repeat (first | apply Kd.R_alloc | apply Kd.R_drewN | apply Kd.R_drew)); exact HO_6.out) hb); have n1_ := Aside0.mk (below_step (by repeat (first | (with_reducible first | exact HB.out | apply below_alloc | apply pw_below_drewN | apply below_drew1) | exact HB.out)) hb); clear HO_6; clear HB; have HO_6 := n0_; have HB := n1_; clear n0_ n1_; (try clear hb); (try clear hb2); (try clear hk); (try clear hi)) | ((with_reducible refine gate_callee (f := 13) rfl ?_); refine goesL_ (some 55) rfl rfl Tryd.func13 (by kernel_rfl) rfl #[.string (t232 ++ (rdOf ByteArray.empty y222 t225))] rfl (by (try simp only [List.map_toArray, List.map_cons, List.map_nil]); first | done | rfl | (simp only [List.length_drop, List.length_take]; rfl)) ?_; (with_reducible refine (chancelref1_Quote.calls k1 (t232 ++ (rdOf ByteArray.empty y222 t225)) t234 _ A22.out).mono ?_); rintro e w' ⟨rfl, ⟨nd, rfl⟩⟩; refine ⟨_, rfl, ?_⟩) | ((with_reducible refine gate_callee (f := 12) rfl ?_); refine goesL_ (some 58) rfl rfl Tryd.func12 (by kernel_rfl) rfl #[.string (((⟨#[32]⟩ : ByteArray) ++ t234) ++ (⟨#[32, 47, 47, 32, 98, 101, 104, 105, 110, 100]⟩ : ByteArray))] rfl (by (try simp only [List.map_toArray, List.map_cons, List.map_nil]); first | done | rfl | (simp only [List.length_drop, List.length_take]; rfl)) ?_; (with_reducible refine (lex_Tokens.calls k1 (((⟨#[32]⟩ : ByteArray) ++ t234) ++ (⟨#[32, 47, 47, 32, 98, 101, 104, 105, 110, 100]⟩ : ByteArray)) t235 t236 _ A25.out ?side1).mono ?_); (case side1 => exact Tb.below HT.out (by repeat (first | (with_reducible first | exact HB.out | apply below_alloc | apply pw_below_drewN | apply below_drew1) | exact HB.out))); rintro e w37 ⟨v237, rfl, ho0, hb⟩; refine ⟨_, rfl, ?_⟩; have n0_ := Aside0.mk (Kd.R_below (by (with_reducible repeat (first | apply Kd.R_alloc | apply Kd.R_drewN | apply Kd.R_drew)); exact HO_6.out) hb); have n1_ := Aside0.mk (Kd.R_lower ho0 (below_size (by repeat (first | (with_reducible first | exact HB.out | apply below_alloc | apply pw_below_drewN | apply below_drew1) | exact HB.out)))); have n2_ := Aside0.mk (below_step (by repeat (first | (with_reducible first | exact HB.out | apply below_alloc | apply pw_below_drewN | apply below_drew1) | exact HB.out)) hb); clear HO_6; clear HB; have HO_6 := n0_; have HO238 := n1_; have HB := n2_; clear n0_ n1_ n2_; (try clear hb); (try clear hb2); (try clear hk); (try clear hi); (try clear ho0); obtain ⟨Ao38, co38, eo38⟩ := Kd.R_slice HO238.out; subst eo38; have p239 : 0 ≤ (0 : Int) := (by omega); have q239 : 0 < (t235.length : Int) := of_decide_eq_true (by first | (with_reducible assumption) | assumption); obtain ⟨ad239, e239, hx239_0, hx239_1, hx239_2, hx239_3⟩ := at_T35 (Kd.R_reads' HO238.out).2.2 0 p239 q239; cases e239; have qi239 : (0 < t235.length) = True := eq_true (by omega); (try rw [show ((0 : Int)).toNat = 0 from rfl] at hx239_0); (try rw [show 0 * 4 = 0 from rfl] at hx239_0); (try rw [Addr.add_zero'] at hx239_0); (try rw [show ((0 : Int)).toNat = 0 from rfl] at hx239_1); (try rw [show 0 * 4 = 0 from rfl] at hx239_1); (try rw [Addr.add_zero'] at hx239_1); (try rw [show ((0 : Int)).toNat = 0 from rfl] at hx239_2); (try rw [show 0 * 4 = 0 from rfl] at hx239_2); (try rw [Addr.add_zero'] at hx239_2); (try rw [show ((0 : Int)).toNat = 0 from rfl] at hx239_3); (try rw [show 0 * 4 = 0 from rfl] at hx239_3); (try rw [Addr.add_zero'] at hx239_3); replace p239 := eq_true p239; replace q239 := eq_true q239; have p240 : 0 ≤ (0 : Int) := (by omega); have q240 : 0 < (t235.length : Int) := of_decide_eq_true (by first | (with_reducible assumption) | assumption); obtain ⟨ad240, e240, hx240_0, hx240_1, hx240_2, hx240_3⟩ := at_T35 (Kd.R_reads' HO238.out).2.2 0 p240 q240; obtain rfl : ad239 = ad240 := (by injection e240); have qi240 : (0 < t235.length) = True := eq_true (by omega); (try rw [show ((0 : Int)).toNat = 0 from rfl] at hx240_0); (try rw [show 0 * 4 = 0 from rfl] at hx240_0); (try rw [Addr.add_zero'] at hx240_0); (try rw [show ((0 : Int)).toNat = 0 from rfl] at hx240_1); (try rw [show 0 * 4 = 0 from rfl] at hx240_1); (try rw [Addr.add_zero'] at hx240_1); (try rw [show ((0 : Int)).toNat = 0 from rfl] at hx240_2); (try rw [show 0 * 4 = 0 from rfl] at hx240_2); (try rw [Addr.add_zero'] at hx240_2); (try rw [show ((0 : Int)).toNat = 0 from rfl] at hx240_3); (try rw [show 0 * 4 = 0 from rfl] at hx240_3); (try rw [Addr.add_zero'] at hx240_3); replace p240 := eq_true p240; replace q240 := eq_true q240))
                                go_ret
                                exact ⟨by first | rfl | (simp [errW_none, errW_some] <;> rfl) | (simp [*, errW_none, errW_some] <;> rfl), by repeat (first | (with_reducible first | exact HB.out | apply below_alloc | apply pw_below_drewN | apply below_drew1) | exact HB.out)⟩
                            · rw [if_neg c29] at H
                              have c29b0 : (((rd_T35 t235 0).f0) == 3) = false := beq_eq_false_iff_ne.mpr c29
                              have c29b1 : (((rd_T35 t235 0).f0) != 3) = true := bne_iff_ne.mpr c29
                              obtain rfl := Option.some.inj H
                              obtain ⟨Ao39, co39, eo39⟩ := Kd.R_slice HO_6.out
                              subst eo39
                              go_wp2_with (first | ((with_reducible refine gate_callee (f := 16) rfl ?_); refine goesL_ (some 42) rfl rfl Tryd.func16 (by kernel_rfl) rfl #[.slice Ao39 x6_1.length co39] rfl (by (try simp only [List.map_toArray, List.map_cons, List.map_nil]); first | done | rfl | (simp only [List.length_drop, List.length_take]; rfl)) ?_; (with_reducible refine (chancelref1_Of.calls k1 _ _ x6_1 t232 t233 _ ?side1 ?side2 A17.out).mono ?_); (case side1 => repeat (first | exact (Kd.R_reads' HO_6.out).2.2 | (with_reducible refine Kd.C_alloc ?_ _) | (with_reducible refine Kd.C_drewN ?_ _) | (with_reducible refine Kd.C_drew ?_))); (case side2 => exact (Kd.R_reads' HO_6.out).2.1); rintro e w40 ⟨rfl, hb⟩; refine ⟨_, rfl, ?_⟩; have n0_ := Aside0.mk (Kd.R_below (by (with_reducible repeat (first | apply Kd.R_alloc | apply Kd.R_drewN | apply Kd.R_drew)); exact HO_6.out) hb); have n1_ := Aside0.mk (below_step (by repeat (first | (with_reducible first | exact HB.out | apply below_alloc | apply pw_below_drewN | apply below_drew1) | exact HB.out)) hb); clear HO_6; clear HB; have HO_6 := n0_; have HB := n1_; clear n0_ n1_; (try clear hb); (try clear hb2); (try clear hk); (try clear hi)) | ((with_reducible refine gate_callee (f := 13) rfl ?_); refine goesL_ (some 55) rfl rfl Tryd.func13 (by kernel_rfl) rfl #[.string (t232 ++ (rdOf ByteArray.empty y222 t225))] rfl (by (try simp only [List.map_toArray, List.map_cons, List.map_nil]); first | done | rfl | (simp only [List.length_drop, List.length_take]; rfl)) ?_; (with_reducible refine (chancelref1_Quote.calls k1 (t232 ++ (rdOf ByteArray.empty y222 t225)) t234 _ A22.out).mono ?_); rintro e w' ⟨rfl, ⟨nd, rfl⟩⟩; refine ⟨_, rfl, ?_⟩) | ((with_reducible refine gate_callee (f := 12) rfl ?_); refine goesL_ (some 58) rfl rfl Tryd.func12 (by kernel_rfl) rfl #[.string (((⟨#[32]⟩ : ByteArray) ++ t234) ++ (⟨#[32, 47, 47, 32, 98, 101, 104, 105, 110, 100]⟩ : ByteArray))] rfl (by (try simp only [List.map_toArray, List.map_cons, List.map_nil]); first | done | rfl | (simp only [List.length_drop, List.length_take]; rfl)) ?_; (with_reducible refine (lex_Tokens.calls k1 (((⟨#[32]⟩ : ByteArray) ++ t234) ++ (⟨#[32, 47, 47, 32, 98, 101, 104, 105, 110, 100]⟩ : ByteArray)) t235 t236 _ A25.out ?side1).mono ?_); (case side1 => exact Tb.below HT.out (by repeat (first | (with_reducible first | exact HB.out | apply below_alloc | apply pw_below_drewN | apply below_drew1) | exact HB.out))); rintro e w41 ⟨v237, rfl, ho0, hb⟩; refine ⟨_, rfl, ?_⟩; have n0_ := Aside0.mk (Kd.R_below (by (with_reducible repeat (first | apply Kd.R_alloc | apply Kd.R_drewN | apply Kd.R_drew)); exact HO_6.out) hb); have n1_ := Aside0.mk (Kd.R_lower ho0 (below_size (by repeat (first | (with_reducible first | exact HB.out | apply below_alloc | apply pw_below_drewN | apply below_drew1) | exact HB.out)))); have n2_ := Aside0.mk (below_step (by repeat (first | (with_reducible first | exact HB.out | apply below_alloc | apply pw_below_drewN | apply below_drew1) | exact HB.out)) hb); clear HO_6; clear HB; have HO_6 := n0_; have HO238 := n1_; have HB := n2_; clear n0_ n1_ n2_; (try clear hb); (try clear hb2); (try clear hk); (try clear hi); (try clear ho0); obtain ⟨Ao42, co42, eo42⟩ := Kd.R_slice HO238.out; subst eo42; have p239 : 0 ≤ (0 : Int) := (by omega); have q239 : 0 < (t235.length : Int) := of_decide_eq_true (by first | (with_reducible assumption) | assumption); obtain ⟨ad239, e239, hx239_0, hx239_1, hx239_2, hx239_3⟩ := at_T35 (Kd.R_reads' HO238.out).2.2 0 p239 q239; cases e239; have qi239 : (0 < t235.length) = True := eq_true (by omega); (try rw [show ((0 : Int)).toNat = 0 from rfl] at hx239_0); (try rw [show 0 * 4 = 0 from rfl] at hx239_0); (try rw [Addr.add_zero'] at hx239_0); (try rw [show ((0 : Int)).toNat = 0 from rfl] at hx239_1); (try rw [show 0 * 4 = 0 from rfl] at hx239_1); (try rw [Addr.add_zero'] at hx239_1); (try rw [show ((0 : Int)).toNat = 0 from rfl] at hx239_2); (try rw [show 0 * 4 = 0 from rfl] at hx239_2); (try rw [Addr.add_zero'] at hx239_2); (try rw [show ((0 : Int)).toNat = 0 from rfl] at hx239_3); (try rw [show 0 * 4 = 0 from rfl] at hx239_3); (try rw [Addr.add_zero'] at hx239_3); replace p239 := eq_true p239; replace q239 := eq_true q239))
                              go_ret
                              exact ⟨by first | rfl | (simp [errW_none, errW_some] <;> rfl) | (simp [*, errW_none, errW_some] <;> rfl), by repeat (first | (with_reducible first | exact HB.out | apply below_alloc | apply pw_below_drewN | apply below_drew1) | exact HB.out)⟩
                          · rw [if_neg c28] at H
                            exact absurd H (by simp)
                        · rw [if_neg c27] at H
                          have c27b0 : ((t235.length : Int) == 1) = false := beq_eq_false_iff_ne.mpr c27
                          have c27b1 : ((t235.length : Int) != 1) = true := bne_iff_ne.mpr c27
                          obtain rfl := Option.some.inj H
                          obtain ⟨Ao43, co43, eo43⟩ := Kd.R_slice HO_6.out
                          subst eo43
                          go_wp2_with (first | ((with_reducible refine gate_callee (f := 16) rfl ?_); refine goesL_ (some 42) rfl rfl Tryd.func16 (by kernel_rfl) rfl #[.slice Ao43 x6_1.length co43] rfl (by (try simp only [List.map_toArray, List.map_cons, List.map_nil]); first | done | rfl | (simp only [List.length_drop, List.length_take]; rfl)) ?_; (with_reducible refine (chancelref1_Of.calls k1 _ _ x6_1 t232 t233 _ ?side1 ?side2 A17.out).mono ?_); (case side1 => repeat (first | exact (Kd.R_reads' HO_6.out).2.2 | (with_reducible refine Kd.C_alloc ?_ _) | (with_reducible refine Kd.C_drewN ?_ _) | (with_reducible refine Kd.C_drew ?_))); (case side2 => exact (Kd.R_reads' HO_6.out).2.1); rintro e w44 ⟨rfl, hb⟩; refine ⟨_, rfl, ?_⟩; have n0_ := Aside0.mk (Kd.R_below (by (with_reducible repeat (first | apply Kd.R_alloc | apply Kd.R_drewN | apply Kd.R_drew)); exact HO_6.out) hb); have n1_ := Aside0.mk (below_step (by repeat (first | (with_reducible first | exact HB.out | apply below_alloc | apply pw_below_drewN | apply below_drew1) | exact HB.out)) hb); clear HO_6; clear HB; have HO_6 := n0_; have HB := n1_; clear n0_ n1_; (try clear hb); (try clear hb2); (try clear hk); (try clear hi)) | ((with_reducible refine gate_callee (f := 13) rfl ?_); refine goesL_ (some 55) rfl rfl Tryd.func13 (by kernel_rfl) rfl #[.string (t232 ++ (rdOf ByteArray.empty y222 t225))] rfl (by (try simp only [List.map_toArray, List.map_cons, List.map_nil]); first | done | rfl | (simp only [List.length_drop, List.length_take]; rfl)) ?_; (with_reducible refine (chancelref1_Quote.calls k1 (t232 ++ (rdOf ByteArray.empty y222 t225)) t234 _ A22.out).mono ?_); rintro e w' ⟨rfl, ⟨nd, rfl⟩⟩; refine ⟨_, rfl, ?_⟩) | ((with_reducible refine gate_callee (f := 12) rfl ?_); refine goesL_ (some 58) rfl rfl Tryd.func12 (by kernel_rfl) rfl #[.string (((⟨#[32]⟩ : ByteArray) ++ t234) ++ (⟨#[32, 47, 47, 32, 98, 101, 104, 105, 110, 100]⟩ : ByteArray))] rfl (by (try simp only [List.map_toArray, List.map_cons, List.map_nil]); first | done | rfl | (simp only [List.length_drop, List.length_take]; rfl)) ?_; (with_reducible refine (lex_Tokens.calls k1 (((⟨#[32]⟩ : ByteArray) ++ t234) ++ (⟨#[32, 47, 47, 32, 98, 101, 104, 105, 110, 100]⟩ : ByteArray)) t235 t236 _ A25.out ?side1).mono ?_); (case side1 => exact Tb.below HT.out (by repeat (first | (with_reducible first | exact HB.out | apply below_alloc | apply pw_below_drewN | apply below_drew1) | exact HB.out))); rintro e w45 ⟨v237, rfl, ho0, hb⟩; refine ⟨_, rfl, ?_⟩; have n0_ := Aside0.mk (Kd.R_below (by (with_reducible repeat (first | apply Kd.R_alloc | apply Kd.R_drewN | apply Kd.R_drew)); exact HO_6.out) hb); have n1_ := Aside0.mk (Kd.R_lower ho0 (below_size (by repeat (first | (with_reducible first | exact HB.out | apply below_alloc | apply pw_below_drewN | apply below_drew1) | exact HB.out)))); have n2_ := Aside0.mk (below_step (by repeat (first | (with_reducible first | exact HB.out | apply below_alloc | apply pw_below_drewN | apply below_drew1) | exact HB.out)) hb); clear HO_6; clear HB; have HO_6 := n0_; have HO238 := n1_; have HB := n2_; clear n0_ n1_ n2_; (try clear hb); (try clear hb2); (try clear hk); (try clear hi); (try clear ho0); obtain ⟨Ao46, co46, eo46⟩ := Kd.R_slice HO238.out; subst eo46))
                          go_ret
                          exact ⟨by first | rfl | (simp [errW_none, errW_some] <;> rfl) | (simp [*, errW_none, errW_some] <;> rfl), by repeat (first | (with_reducible first | exact HB.out | apply below_alloc | apply pw_below_drewN | apply below_drew1) | exact HB.out)⟩
                      · rw [if_neg c26] at H
                        have c26b0 : (t236 == 0) = false := beq_eq_false_iff_ne.mpr c26
                        have c26b1 : (t236 != 0) = true := bne_iff_ne.mpr c26
                        obtain rfl := Option.some.inj H
                        obtain ⟨Ao47, co47, eo47⟩ := Kd.R_slice HO_6.out
                        subst eo47
                        go_wp2_with (first | ((with_reducible refine gate_callee (f := 16) rfl ?_); refine goesL_ (some 42) rfl rfl Tryd.func16 (by kernel_rfl) rfl #[.slice Ao47 x6_1.length co47] rfl (by (try simp only [List.map_toArray, List.map_cons, List.map_nil]); first | done | rfl | (simp only [List.length_drop, List.length_take]; rfl)) ?_; (with_reducible refine (chancelref1_Of.calls k1 _ _ x6_1 t232 t233 _ ?side1 ?side2 A17.out).mono ?_); (case side1 => repeat (first | exact (Kd.R_reads' HO_6.out).2.2 | (with_reducible refine Kd.C_alloc ?_ _) | (with_reducible refine Kd.C_drewN ?_ _) | (with_reducible refine Kd.C_drew ?_))); (case side2 => exact (Kd.R_reads' HO_6.out).2.1); rintro e w48 ⟨rfl, hb⟩; refine ⟨_, rfl, ?_⟩; have n0_ := Aside0.mk (Kd.R_below (by (with_reducible repeat (first | apply Kd.R_alloc | apply Kd.R_drewN | apply Kd.R_drew)); exact HO_6.out) hb); have n1_ := Aside0.mk (below_step (by repeat (first | (with_reducible first | exact HB.out | apply below_alloc | apply pw_below_drewN | apply below_drew1) | exact HB.out)) hb); clear HO_6; clear HB; have HO_6 := n0_; have HB := n1_; clear n0_ n1_; (try clear hb); (try clear hb2); (try clear hk); (try clear hi)) | ((with_reducible refine gate_callee (f := 13) rfl ?_); refine goesL_ (some 55) rfl rfl Tryd.func13 (by kernel_rfl) rfl #[.string (t232 ++ (rdOf ByteArray.empty y222 t225))] rfl (by (try simp only [List.map_toArray, List.map_cons, List.map_nil]); first | done | rfl | (simp only [List.length_drop, List.length_take]; rfl)) ?_; (with_reducible refine (chancelref1_Quote.calls k1 (t232 ++ (rdOf ByteArray.empty y222 t225)) t234 _ A22.out).mono ?_); rintro e w' ⟨rfl, ⟨nd, rfl⟩⟩; refine ⟨_, rfl, ?_⟩) | ((with_reducible refine gate_callee (f := 12) rfl ?_); refine goesL_ (some 58) rfl rfl Tryd.func12 (by kernel_rfl) rfl #[.string (((⟨#[32]⟩ : ByteArray) ++ t234) ++ (⟨#[32, 47, 47, 32, 98, 101, 104, 105, 110, 100]⟩ : ByteArray))] rfl (by (try simp only [List.map_toArray, List.map_cons, List.map_nil]); first | done | rfl | (simp only [List.length_drop, List.length_take]; rfl)) ?_; (with_reducible refine (lex_Tokens.calls k1 (((⟨#[32]⟩ : ByteArray) ++ t234) ++ (⟨#[32, 47, 47, 32, 98, 101, 104, 105, 110, 100]⟩ : ByteArray)) t235 t236 _ A25.out ?side1).mono ?_); (case side1 => exact Tb.below HT.out (by repeat (first | (with_reducible first | exact HB.out | apply below_alloc | apply pw_below_drewN | apply below_drew1) | exact HB.out))); rintro e w49 ⟨v237, rfl, ho0, hb⟩; refine ⟨_, rfl, ?_⟩; have n0_ := Aside0.mk (Kd.R_below (by (with_reducible repeat (first | apply Kd.R_alloc | apply Kd.R_drewN | apply Kd.R_drew)); exact HO_6.out) hb); have n1_ := Aside0.mk (Kd.R_lower ho0 (below_size (by repeat (first | (with_reducible first | exact HB.out | apply below_alloc | apply pw_below_drewN | apply below_drew1) | exact HB.out)))); have n2_ := Aside0.mk (below_step (by repeat (first | (with_reducible first | exact HB.out | apply below_alloc | apply pw_below_drewN | apply below_drew1) | exact HB.out)) hb); clear HO_6; clear HB; have HO_6 := n0_; have HO238 := n1_; have HB := n2_; clear n0_ n1_ n2_; (try clear hb); (try clear hb2); (try clear hk); (try clear hi); (try clear ho0)))
                        go_ret
                        exact ⟨by first | rfl | (simp [errW_none, errW_some] <;> rfl) | (simp [*, errW_none, errW_some] <;> rfl), by repeat (first | (with_reducible first | exact HB.out | apply below_alloc | apply pw_below_drewN | apply below_drew1) | exact HB.out)⟩
                    · rw [if_neg c24] at H
                      exact absurd H (by simp)
                  · rw [if_neg c23] at H
                    exact absurd H (by simp)
                · rw [if_neg c21] at H
                  exact absurd H (by simp)
      · rw [if_neg c7] at H
        exact absurd H (by simp)
    · rw [if_neg c6] at H
      exact absurd H (by simp)
  · replace c4 := Bool.eq_false_iff.mpr c4
    subst c4
    have H1 : (some false) = some r := by rw [if_neg (show ¬ (false = true) by decide)] at H; exact H
    clear H
    have H := H1
    clear H1
    obtain rfl := Option.some.inj H
    go_enter Tryd.func6, Tryd.ntmps6
    go_wp2_with (first | ((with_reducible refine gate_callee (f := 8) rfl ?_); refine goesL_ (some 12) rfl rfl Tryd.func8 (by kernel_rfl) rfl #[] rfl (by (try simp only [List.map_toArray, List.map_cons, List.map_nil]); first | done | rfl | (simp only [List.length_drop, List.length_take]; rfl)) ?_; (with_reducible refine (chancellaw4_known.calls k  false _ A3.out ?side1).mono ?_); (case side1 => exact Tb.below HT.out (by repeat (first | (with_reducible first | exact HB.out | apply below_alloc | apply pw_below_drewN | apply below_drew1) | exact HB.out))); rintro e w50 ⟨rfl, hb⟩; refine ⟨_, rfl, ?_⟩; have n0_ := Aside0.mk (below_step (by repeat (first | (with_reducible first | exact HB.out | apply below_alloc | apply pw_below_drewN | apply below_drew1) | exact HB.out)) hb); clear HB; have HB := n0_; clear n0_; (try clear hb); (try clear hb2); (try clear hk); (try clear hi)))
    go_ret
    exact ⟨by first | rfl | (simp [errW_none, errW_some] <;> rfl) | (simp [*, errW_none, errW_some] <;> rfl), by repeat (first | (with_reducible first | exact HB.out | apply below_alloc | apply pw_below_drewN | apply below_drew1) | exact HB.out)⟩

set_option maxHeartbeats 8000000 in
set_option maxRecDepth 100000 in
theorem chancellaw4_LexStrings.calls_cut (k : Nat) (x0 : Addr) (n0 c0 : Nat) (l0 : List Int) (a1 : Int) (r : Bool) (w : World) (hr0 : Kd.C (Kd.int .i64) w (some x0) l0.length l0) (hm0 : l0.length = 25) (hn : 25 < n0) (hc0 : n0 ≤ c0) (h : chancellaw4_LexStrings.f k l0 a1 = some r) (hT : Tb w) :
    Calls Tryd.prog 6 #[.slice (some x0) n0 c0, .int .i64 a1] w fun e w' => e = .returned (.bool r) ∧ Below w.heap.size w w' := by
  have hs1_ : decide (25 < (n0 : Int)) = true := decide_eq_true (by omega)
  have hs2_ : decide (25 < n0) = true := decide_eq_true hn
  have hs3_ : ((25 : Int) ≤ (c0 : Int)) = True := eq_true (by omega)
  have hs4_ : (25 ≤ c0) = True := eq_true (by omega)
  have HR0 := Aside0.mk hr0
  have HC0 := Aside0.mk hc0
  clear hr0 hc0
  have HB := Aside0.mk (Below.refl w.heap.size w)
  have H : ((chancellaw4_known.f k).bind fun t221 => (if t221 = true then ((some (([(⟨#[47, 47, 32, 110, 111]⟩ : ByteArray), (⟨#[32, 43, 32]⟩ : ByteArray), (⟨#[34]⟩ : ByteArray), (⟨#[97, 32, 98]⟩ : ByteArray), (⟨#[]⟩ : ByteArray)] : List ByteArray) : List ByteArray)).bind fun y222 => ((chancellaw4_within.f a1 5).bind fun t225 => (if 0 ≤ t225 then (if t225 < (y222.length : Int) then (chancellaw4_LexStrings.l0 k l0 (rdOf ByteArray.empty y222 t225) ([] : List Int) 0) else (none)) else (none)))) else (some false))) = some r := h
  clear h
  have HT := Aside0.mk hT
  clear hT
  replace H := Option.bind_eq_some_iff.mp H
  obtain ⟨t221, A30, H⟩ := H
  replace H : (if t221 = true then ((some (([(⟨#[47, 47, 32, 110, 111]⟩ : ByteArray), (⟨#[32, 43, 32]⟩ : ByteArray), (⟨#[34]⟩ : ByteArray), (⟨#[97, 32, 98]⟩ : ByteArray), (⟨#[]⟩ : ByteArray)] : List ByteArray) : List ByteArray)).bind fun y222 => ((chancellaw4_within.f a1 5).bind fun t225 => (if 0 ≤ t225 then (if t225 < (y222.length : Int) then (chancellaw4_LexStrings.l0 k l0 (rdOf ByteArray.empty y222 t225) ([] : List Int) 0) else (none)) else (none)))) else (some false)) = some r := H
  have A3 := Aside0.mk A30
  clear A30
  by_cases c4 : t221 = true
  · subst c4
    have H1 : ((some (([(⟨#[47, 47, 32, 110, 111]⟩ : ByteArray), (⟨#[32, 43, 32]⟩ : ByteArray), (⟨#[34]⟩ : ByteArray), (⟨#[97, 32, 98]⟩ : ByteArray), (⟨#[]⟩ : ByteArray)] : List ByteArray) : List ByteArray)).bind fun y222 => ((chancellaw4_within.f a1 5).bind fun t225 => (if 0 ≤ t225 then (if t225 < (y222.length : Int) then (chancellaw4_LexStrings.l0 k l0 (rdOf ByteArray.empty y222 t225) ([] : List Int) 0) else (none)) else (none)))) = some r := by rw [if_pos rfl] at H; exact H
    clear H
    have H := H1
    clear H1
    obtain ⟨y222, hy222⟩ : ∃ y_ : List ByteArray, y_ = (([(⟨#[47, 47, 32, 110, 111]⟩ : ByteArray), (⟨#[32, 43, 32]⟩ : ByteArray), (⟨#[34]⟩ : ByteArray), (⟨#[97, 32, 98]⟩ : ByteArray), (⟨#[]⟩ : ByteArray)] : List ByteArray)) := ⟨_, rfl⟩
    replace H : ((chancellaw4_within.f a1 5).bind fun t225 => (if 0 ≤ t225 then (if t225 < (y222.length : Int) then (chancellaw4_LexStrings.l0 k l0 (rdOf ByteArray.empty y222 t225) ([] : List Int) 0) else (none)) else (none))) = some r := by first | (rw [hy222]; with_reducible exact H) | (have H2_ := (Option.bind_some _ _).symm.trans H; rw [hy222]; with_reducible exact H2_) | (have H2_ := (Option.bind_some _ _).symm.trans H; with_reducible exact H2_) | with_reducible exact H | (rw [hy222]; exact H) | exact H
    have Ny222 := Aside0.mk hy222
    clear hy222
    replace H := Option.bind_eq_some_iff.mp H
    obtain ⟨t225, A50, H⟩ := H
    replace H : (if 0 ≤ t225 then (if t225 < (y222.length : Int) then (chancellaw4_LexStrings.l0 k l0 (rdOf ByteArray.empty y222 t225) ([] : List Int) 0) else (none)) else (none)) = some r := H
    have A5 := Aside0.mk A50
    clear A50
    by_cases c6 : 0 ≤ t225
    · rw [if_pos c6] at H
      have c6b0 : decide (0 ≤ t225) = true := decide_eq_true c6
      clear c6
      by_cases c7 : t225 < (y222.length : Int)
      · rw [if_pos c7] at H
        have c7b0 : decide (t225 < (y222.length : Int)) = true := decide_eq_true c7
        clear c7
        have H' := Aside0.mk H
        clear H
        go_enter Tryd.func6, Tryd.ntmps6
        go_wp2_with (first | ((with_reducible refine gate_callee (f := 8) rfl ?_); refine goesL_ (some 12) rfl rfl Tryd.func8 (by kernel_rfl) rfl #[] rfl (by (try simp only [List.map_toArray, List.map_cons, List.map_nil]); first | done | rfl | (simp only [List.length_drop, List.length_take]; rfl)) ?_; (with_reducible refine (chancellaw4_known.calls k  true _ A3.out ?side1).mono ?_); (case side1 => exact Tb.below HT.out (by repeat (first | (with_reducible first | exact HB.out | apply below_alloc | apply pw_below_drewN | apply below_drew1) | exact HB.out))); rintro e w8 ⟨rfl, hb⟩; refine ⟨_, rfl, ?_⟩; have n0_ := Aside0.mk (below_step (by repeat (first | (with_reducible first | exact HB.out | apply below_alloc | apply pw_below_drewN | apply below_drew1) | exact HB.out)) hb); clear HB; have HB := n0_; clear n0_; (try clear hb); (try clear hb2); (try clear hk); (try clear hi)) | ((with_reducible refine gate_dst (N := 19) rfl ?_); (try (refine gate_guard (by rfl) ?_; dsimp only)); refine Kd.R_lit Kd.string _ 9 ?hg (N := 19) ?hd (xs := ([(⟨#[47, 47, 32, 110, 111]⟩ : ByteArray), (⟨#[32, 43, 32]⟩ : ByteArray), (⟨#[34]⟩ : ByteArray), (⟨#[97, 32, 98]⟩ : ByteArray), (⟨#[]⟩ : ByteArray)] : List ByteArray)) (inner := [.string (⟨#[47, 47, 32, 110, 111]⟩ : ByteArray), .string (⟨#[32, 43, 32]⟩ : ByteArray), .string (⟨#[34]⟩ : ByteArray), .string (⟨#[97, 32, 98]⟩ : ByteArray), .string (⟨#[]⟩ : ByteArray)]) (ok := fun _ => True) (okp := fun _ => True) ?hr ?hp (fun _ hk => hk) trivial (Below.refl _ _) (Nat.le_refl _) (by simp) ?_; (case hd => rfl); (case hg => rfl); (case hr => first | (go_simp; done) | (go_simp; rfl)); (case hp => exact (Reps.one (show Kd.M Kd.string _ _ _ (⟨#[47, 47, 32, 110, 111]⟩ : ByteArray) [.string (⟨#[47, 47, 32, 110, 111]⟩ : ByteArray)] from rfl) (Reps.one (show Kd.M Kd.string _ _ _ (⟨#[32, 43, 32]⟩ : ByteArray) [.string (⟨#[32, 43, 32]⟩ : ByteArray)] from rfl) (Reps.one (show Kd.M Kd.string _ _ _ (⟨#[34]⟩ : ByteArray) [.string (⟨#[34]⟩ : ByteArray)] from rfl) (Reps.one (show Kd.M Kd.string _ _ _ (⟨#[97, 32, 98]⟩ : ByteArray) [.string (⟨#[97, 32, 98]⟩ : ByteArray)] from rfl) (Reps.one (show Kd.M Kd.string _ _ _ (⟨#[]⟩ : ByteArray) [.string (⟨#[]⟩ : ByteArray)] from rfl) (Reps.none _ _))))))); intro v223 w9 ho10 hb hg_ hnew_; clear hg_ hnew_; (first | rw [← Ny222.out] at ho10 | (simp only [Int.reduceToNat] at ho10; rw [← Ny222.out] at ho10)); have n0_ := Aside0.mk (Kd.R_lower ho10 (below_size (by repeat (first | (with_reducible first | exact HB.out | apply below_alloc | apply pw_below_drewN | apply below_drew1) | exact HB.out)))); have n1_ := Aside0.mk (below_step (by repeat (first | (with_reducible first | exact HB.out | apply below_alloc | apply pw_below_drewN | apply below_drew1) | exact HB.out)) hb); clear HB; have HO224 := n0_; have HB := n1_; clear n0_ n1_; clear hb ho10) | ((with_reducible refine gate_callee (f := 11) rfl ?_); refine goesL_ (some 21) rfl rfl Tryd.func11 (by kernel_rfl) rfl #[.int .i64 a1, .int .i64 5] rfl (by (try simp only [List.map_toArray, List.map_cons, List.map_nil]); first | done | rfl | (simp only [List.length_drop, List.length_take]; rfl)) ?_; (with_reducible refine (chancellaw4_within.calls a1 5 t225 _ A5.out).mono ?_); rintro e w' ⟨rfl, ⟨nd, rfl⟩⟩; refine ⟨_, rfl, ?_⟩; obtain ⟨Ao11, co11, eo11⟩ := Kd.R_slice HO224.out; subst eo11; have p226 : 0 ≤ (t225 : Int) := of_decide_eq_true (by first | (with_reducible assumption) | assumption); have q226 : t225 < (y222.length : Int) := of_decide_eq_true (by first | (with_reducible assumption) | assumption); obtain ⟨ad226, e226, hx226_0⟩ := Kd.at_string (Kd.R_reads' HO224.out).2.2 t225 p226 q226; cases e226; replace p226 := eq_true p226; replace q226 := eq_true q226))
        go_loopg [6, 7] k (fun kq v6 v7 w' => ∃ (x6_1 : List Int) (x7_1 : Int), v7 = .int .i64 x7_1 ∧ Aside0 (chancellaw4_LexStrings.l0 kq l0 (rdOf ByteArray.empty y222 t225) x6_1 x7_1 = some r) ∧ Aside0 (kq ≤ k) ∧ Aside0 (Kd.R (Kd.int .i32) 21 w' w.heap.size (fun _ => True) v6 x6_1) ∧ Aside0 (Below w.heap.size w w'))
        case atStart => exact ⟨(([] : List Int)), (0), (by first | rfl | (simp; done) | (simp [*]; done)), H', ⟨Nat.le_refl _⟩, ⟨by first | exact Kd.R_nil _ _ _ _ _ | exact Kd.N_nil _ _ _ _ _ | exact Kd.V_nil _ _ _ _ _ | exact Kd.Q_nil _ _ _ _ _ | exact Kd.S_nil _ _ _ _ _⟩, ⟨by repeat (first | (with_reducible first | exact HB.out | apply below_alloc | apply pw_below_drewN | apply below_drew1) | exact HB.out)⟩⟩
        case round =>
          clear H'
          try clear c1
          try clear p2
          try clear q2
          try clear hx2
          try clear c4
          try clear c6
          try clear c6b0
          try clear c7
          try clear c7b0
          try clear c8
          try clear c11
          try clear hx226_0
          try clear p226
          try clear q226
          obtain ⟨x6_1, x7_1, rfl, HA, HK1, HO_6, HB⟩ := hrel
          cases gk with
          | zero => exact absurd HA.out (by simp [chancellaw4_LexStrings.l0])
          | succ k1 =>
            have H := HA.out
            clear HA
            simp only [chancellaw4_LexStrings.l0] at H
            by_cases c12 : x7_1 < (l0.length : Int)
            · rw [if_pos c12] at H
              have c12b0 : decide (x7_1 < (l0.length : Int)) = true := decide_eq_true c12
              have c12b0m_ : decide (x7_1 < (25 : Int)) = true := by have e_ := c12b0; rw [hm0] at e_; exact e_
              clear c12
              by_cases c13 : 0 ≤ x7_1
              · rw [if_pos c13] at H
                have c13b0 : decide (0 ≤ x7_1) = true := decide_eq_true c13
                clear c13
                replace H := Option.bind_eq_some_iff.mp H
                obtain ⟨t228, A140, H⟩ := H
                replace H : (if x6_1.length < 35184372088832 then (chancellaw4_LexStrings.l0 k1 l0 (rdOf ByteArray.empty y222 t225) (x6_1 ++ [wrap32 (wrap64 (97 + t228))]) (wrap64 (x7_1 + 1))) else (none)) = some r := H
                have A14 := Aside0.mk A140
                clear A140
                by_cases c15 : x6_1.length < 35184372088832
                · rw [if_pos c15] at H
                  have LMc15 := Aside0.mk c15
                  clear c15
                  obtain ⟨y229, hy229⟩ : ∃ y_ : List Int, y_ = (x6_1 ++ [wrap32 (wrap64 (97 + t228))]) := ⟨_, rfl⟩
                  replace H : (chancellaw4_LexStrings.l0 k1 l0 (rdOf ByteArray.empty y222 t225) y229 (wrap64 (x7_1 + 1))) = some r := by first | (rw [hy229]; with_reducible exact H) | (have H2_ := (Option.bind_some _ _).symm.trans H; rw [hy229]; with_reducible exact H2_) | (have H2_ := (Option.bind_some _ _).symm.trans H; with_reducible exact H2_) | with_reducible exact H | (rw [hy229]; exact H) | exact H
                  have Ny229 := Aside0.mk hy229
                  clear hy229
                  have H' := Aside0.mk H
                  clear H
                  have p227 : 0 ≤ (x7_1 : Int) := of_decide_eq_true (by first | (with_reducible assumption) | assumption)
                  have q227 : x7_1 < (l0.length : Int) := of_decide_eq_true (by first | (with_reducible assumption) | assumption)
                  have q227m_ : (x7_1 < (25 : Int)) = True := eq_true (by have e_ := q227; rw [hm0] at e_; exact e_)
                  obtain ⟨ad227, e227, hx227_0⟩ := Kd.at_int HR0.out x7_1 p227 q227
                  cases e227
                  replace hx227_0 := (HB.out.cell (World.block_lt_of_cell? w _ hx227_0)).trans hx227_0
                  replace p227 := eq_true p227
                  replace q227 := eq_true q227
                  go_wp2_with (first | ((with_reducible refine gate_callee (f := 11) rfl ?_); refine goesL_ (some 35) rfl rfl Tryd.func11 (by kernel_rfl) rfl #[.int .i64 (rd l0 x7_1), .int .i64 26] rfl (by (try simp only [List.map_toArray, List.map_cons, List.map_nil]); first | done | rfl | (simp only [List.length_drop, List.length_take]; rfl)) ?_; (with_reducible refine (chancellaw4_within.calls (rd l0 x7_1) 26 t228 _ A14.out).mono ?_); rintro e w' ⟨rfl, ⟨nd, rfl⟩⟩; refine ⟨_, rfl, ?_⟩) | ((with_reducible refine gate_builtin (b := .append) (xs := #[.tmp 30, .tmp 38]) rfl ?_); (try (refine gate_guard (by rfl) ?_; dsimp only)); at_builtin; refine Kd.R_append (Kd.int .i32) (w0 := w) w.heap.size rfl (.tmp 30) (.tmp 38) 42 21 (.int .i32 0) 4 rfl Tryd.underlying42 info21 rfl (by decide) (by omega) u6 x6_1 (wrap32 (wrap64 (97 + t228))) [.int .i32 (wrap32 (wrap64 (97 + t228)))] (fun _ => True) (fun _ => False) rfl rfl ?aP (fun _ hk => hk.elim) ?aF ?aO ?aB ?aS ?aL ?_; (case aP => exact rfl); (case aB => exact (by repeat (first | (with_reducible first | exact HB.out | apply below_alloc | apply pw_below_drewN | apply below_drew1) | exact HB.out))); (case aF => exact (fun _ _ => trivial)); (case aO => exact (by (with_reducible repeat (first | apply Kd.R_alloc | apply Kd.R_drewN | apply Kd.R_drew)); exact HO_6.out)); (case aS => exact (below_size (by repeat (first | (with_reducible first | exact HB.out | apply below_alloc | apply pw_below_drewN | apply below_drew1) | exact HB.out)))); (case aL => have := LMc15.out; omega); intro v230 w16 ho hb hg hat; rw [← Ny229.out] at ho; have n0_ := Aside0.mk (hb); have n1_ := Aside0.mk (ho); clear HB; clear HO_6; have HB := n0_; have HO231 := n1_; clear n0_ n1_; clear ho hb hg hat))
                  go_roundg k1
                  case measure => have := HK1.out; omega
                  case rel => exact ⟨(y229), (wrap64 (x7_1 + 1)), (by first | rfl | (simp; done) | (simp [*]; done)), H', ⟨by have := HK1.out; omega⟩, ⟨by (with_reducible repeat (first | apply Kd.R_alloc | apply Kd.R_drewN | apply Kd.R_drew)); exact HO231.out⟩, ⟨by repeat (first | (with_reducible first | exact HB.out | apply below_alloc | apply pw_below_drewN | apply below_drew1) | exact HB.out)⟩⟩
                · rw [if_neg c15] at H
                  exact absurd H (by simp)
              · rw [if_neg c13] at H
                exact absurd H (by simp)
            · rw [if_neg c12] at H
              have c12b0 : decide (x7_1 < (l0.length : Int)) = false := decide_eq_false c12
              have c12b0m_ : decide (x7_1 < (25 : Int)) = false := by have e_ := c12b0; rw [hm0] at e_; exact e_
              clear c12
              replace H := Option.bind_eq_some_iff.mp H
              obtain ⟨⟨t232, t233⟩, A170, H⟩ := H
              replace H : (if (wrap64 ((t232.size : Int) + ((rdOf ByteArray.empty y222 t225).size : Int))) > 30 then (some true) else (if t232.size + (rdOf ByteArray.empty y222 t225).size ≤ 9223372036854775807 then ((chancelref1_Quote.f k1 (t232 ++ (rdOf ByteArray.empty y222 t225))).bind fun t234 => (if 1 + t234.size ≤ 9223372036854775807 then (if ((⟨#[32]⟩ : ByteArray) ++ t234).size + 10 ≤ 9223372036854775807 then ((lex_Tokens.f k1 (((⟨#[32]⟩ : ByteArray) ++ t234) ++ (⟨#[32, 47, 47, 32, 98, 101, 104, 105, 110, 100]⟩ : ByteArray))).bind fun bt235 => (if bt235.2 = 0 then (if (bt235.1.length : Int) = 1 then (if 0 < (bt235.1.length : Int) then (if ((rd_T35 bt235.1 0).f0) = 3 then (if ((rd_T35 bt235.1 0).f1).toList = (t232 ++ (rdOf ByteArray.empty y222 t225)).toList then (some (((rd_T35 bt235.1 0).f3) == 1)) else (some false)) else (some false)) else (none)) else (some false)) else (some false))) else (none)) else (none))) else (none))) = some r := H
              have A17 := Aside0.mk A170
              clear A170
              by_cases c18 : (wrap64 ((t232.size : Int) + ((rdOf ByteArray.empty y222 t225).size : Int))) > 30
              · rw [if_pos c18] at H
                have c18b0 : decide (30 < (wrap64 ((t232.size : Int) + ((rdOf ByteArray.empty y222 t225).size : Int)))) = true := decide_eq_true c18
                clear c18
                obtain rfl := Option.some.inj H
                obtain ⟨Ao19, co19, eo19⟩ := Kd.R_slice HO_6.out
                subst eo19
                go_wp2_with (first | ((with_reducible refine gate_callee (f := 16) rfl ?_); refine goesL_ (some 42) rfl rfl Tryd.func16 (by kernel_rfl) rfl #[.slice Ao19 x6_1.length co19] rfl (by (try simp only [List.map_toArray, List.map_cons, List.map_nil]); first | done | rfl | (simp only [List.length_drop, List.length_take]; rfl)) ?_; (with_reducible refine (chancelref1_Of.calls k1 _ _ x6_1 t232 t233 _ ?side1 ?side2 A17.out).mono ?_); (case side1 => repeat (first | exact (Kd.R_reads' HO_6.out).2.2 | (with_reducible refine Kd.C_alloc ?_ _) | (with_reducible refine Kd.C_drewN ?_ _) | (with_reducible refine Kd.C_drew ?_))); (case side2 => exact (Kd.R_reads' HO_6.out).2.1); rintro e w20 ⟨rfl, hb⟩; refine ⟨_, rfl, ?_⟩; have n0_ := Aside0.mk (Kd.R_below (by (with_reducible repeat (first | apply Kd.R_alloc | apply Kd.R_drewN | apply Kd.R_drew)); exact HO_6.out) hb); have n1_ := Aside0.mk (below_step (by repeat (first | (with_reducible first | exact HB.out | apply below_alloc | apply pw_below_drewN | apply below_drew1) | exact HB.out)) hb); clear HO_6; clear HB; have HO_6 := n0_; have HB := n1_; clear n0_ n1_; (try clear hb); (try clear hb2); (try clear hk); (try clear hi)))
                go_ret
                exact ⟨by first | rfl | (simp [errW_none, errW_some] <;> rfl) | (simp [*, errW_none, errW_some] <;> rfl), by repeat (first | (with_reducible first | exact HB.out | apply below_alloc | apply pw_below_drewN | apply below_drew1) | exact HB.out)⟩
              · rw [if_neg c18] at H
                have c18b0 : decide (30 < (wrap64 ((t232.size : Int) + ((rdOf ByteArray.empty y222 t225).size : Int)))) = false := decide_eq_false c18
                clear c18
                by_cases c21 : t232.size + (rdOf ByteArray.empty y222 t225).size ≤ 9223372036854775807
                · rw [if_pos c21] at H
                  have c21b0 := eq_true c21
                  have c21b1 : decide (t232.size + (rdOf ByteArray.empty y222 t225).size ≤ 9223372036854775807) = true := decide_eq_true c21
                  have c21y_ : decide (30 < ((t232.size : Int) + ((rdOf ByteArray.empty y222 t225).size : Int))) = false := by have e_ := c18b0; rw [show wrap64 ((t232.size : Int) + ((rdOf ByteArray.empty y222 t225).size : Int)) = (t232.size : Int) + ((rdOf ByteArray.empty y222 t225).size : Int) by unfold wrap64; omega] at e_; exact e_
                  try have c21b2 : (9223372036854775807 < t232.size + (rdOf ByteArray.empty y222 t225).size) = False := eq_false (Nat.not_lt.2 c21)
                  replace H := Option.bind_eq_some_iff.mp H
                  obtain ⟨t234, A220, H⟩ := H
                  replace H : (if 1 + t234.size ≤ 9223372036854775807 then (if ((⟨#[32]⟩ : ByteArray) ++ t234).size + 10 ≤ 9223372036854775807 then ((lex_Tokens.f k1 (((⟨#[32]⟩ : ByteArray) ++ t234) ++ (⟨#[32, 47, 47, 32, 98, 101, 104, 105, 110, 100]⟩ : ByteArray))).bind fun bt235 => (if bt235.2 = 0 then (if (bt235.1.length : Int) = 1 then (if 0 < (bt235.1.length : Int) then (if ((rd_T35 bt235.1 0).f0) = 3 then (if ((rd_T35 bt235.1 0).f1).toList = (t232 ++ (rdOf ByteArray.empty y222 t225)).toList then (some (((rd_T35 bt235.1 0).f3) == 1)) else (some false)) else (some false)) else (none)) else (some false)) else (some false))) else (none)) else (none)) = some r := H
                  have A22 := Aside0.mk A220
                  clear A220
                  by_cases c23 : 1 + t234.size ≤ 9223372036854775807
                  · rw [if_pos c23] at H
                    have c23b0 := eq_true c23
                    have c23b1 : decide (1 + t234.size ≤ 9223372036854775807) = true := decide_eq_true c23
                    try have c23b2 : (9223372036854775807 < 1 + t234.size) = False := eq_false (Nat.not_lt.2 c23)
                    by_cases c24 : ((⟨#[32]⟩ : ByteArray) ++ t234).size + 10 ≤ 9223372036854775807
                    · rw [if_pos c24] at H
                      have c24b0 := eq_true c24
                      have c24b1 : decide (((⟨#[32]⟩ : ByteArray) ++ t234).size + 10 ≤ 9223372036854775807) = true := decide_eq_true c24
                      (try (have c24e_ : ((⟨#[32]⟩ : ByteArray) ++ t234).size + 10 = 1 + t234.size + 10 := (by simp only [ByteArray.size_append] <;> rfl); have c24f_ : (9223372036854775807 < 1 + t234.size + 10) = False := eq_false (by omega); have c24g_ : (1 + t234.size + 10 ≤ 9223372036854775807) = True := eq_true (by omega)))
                      try have c24b2 : (9223372036854775807 < ((⟨#[32]⟩ : ByteArray) ++ t234).size + 10) = False := eq_false (Nat.not_lt.2 c24)
                      replace H := Option.bind_eq_some_iff.mp H
                      obtain ⟨⟨t235, t236⟩, A250, H⟩ := H
                      replace H : (if t236 = 0 then (if (t235.length : Int) = 1 then (if 0 < (t235.length : Int) then (if ((rd_T35 t235 0).f0) = 3 then (if ((rd_T35 t235 0).f1).toList = (t232 ++ (rdOf ByteArray.empty y222 t225)).toList then (some (((rd_T35 t235 0).f3) == 1)) else (some false)) else (some false)) else (none)) else (some false)) else (some false)) = some r := H
                      have A25 := Aside0.mk A250
                      clear A250
                      by_cases c26 : t236 = 0
                      · rw [if_pos c26] at H
                        have c26b0 : (t236 == 0) = true := beq_iff_eq.mpr c26
                        have c26b1 : (t236 != 0) = false := bne_eq_false_iff_eq.mpr c26
                        clear c26
                        by_cases c27 : (t235.length : Int) = 1
                        · rw [if_pos c27] at H
                          have c27b0 : ((t235.length : Int) == 1) = true := beq_iff_eq.mpr c27
                          have c27b1 : ((t235.length : Int) != 1) = false := bne_eq_false_iff_eq.mpr c27
                          clear c27
                          by_cases c28 : 0 < (t235.length : Int)
                          · rw [if_pos c28] at H
                            have c28b0 : decide (0 < (t235.length : Int)) = true := decide_eq_true c28
                            have c28b1 : decide (0 < t235.length) = true := decide_eq_true (by omega)
                            clear c28
                            by_cases c29 : ((rd_T35 t235 0).f0) = 3
                            · rw [if_pos c29] at H
                              have c29b0 : (((rd_T35 t235 0).f0) == 3) = true := beq_iff_eq.mpr c29
                              have c29b1 : (((rd_T35 t235 0).f0) != 3) = false := bne_eq_false_iff_eq.mpr c29
                              clear c29
                              by_cases c30 : ((rd_T35 t235 0).f1).toList = (t232 ++ (rdOf ByteArray.empty y222 t225)).toList
                              · rw [if_pos c30] at H
                                have c30b0 : (((rd_T35 t235 0).f1).toList == (t232 ++ (rdOf ByteArray.empty y222 t225)).toList) = true := beq_iff_eq.mpr c30
                                have c30b1 : (((rd_T35 t235 0).f1).toList != (t232 ++ (rdOf ByteArray.empty y222 t225)).toList) = false := bne_eq_false_iff_eq.mpr c30
                                clear c30
                                obtain rfl := Option.some.inj H
                                obtain ⟨Ao31, co31, eo31⟩ := Kd.R_slice HO_6.out
                                subst eo31
                                go_wp2_with (first | ((with_reducible refine gate_callee (f := 16) rfl ?_); refine goesL_ (some 42) rfl rfl Tryd.func16 (by kernel_rfl) rfl #[.slice Ao31 x6_1.length co31] rfl (by (try simp only [List.map_toArray, List.map_cons, List.map_nil]); first | done | rfl | (simp only [List.length_drop, List.length_take]; rfl)) ?_; (with_reducible refine (chancelref1_Of.calls k1 _ _ x6_1 t232 t233 _ ?side1 ?side2 A17.out).mono ?_); (case side1 => repeat (first | exact (Kd.R_reads' HO_6.out).2.2 | (with_reducible refine Kd.C_alloc ?_ _) | (with_reducible refine Kd.C_drewN ?_ _) | (with_reducible refine Kd.C_drew ?_))); (case side2 => exact (Kd.R_reads' HO_6.out).2.1); rintro e w32 ⟨rfl, hb⟩; refine ⟨_, rfl, ?_⟩; have n0_ := Aside0.mk (Kd.R_below (by (with_reducible repeat (first | apply Kd.R_alloc | apply Kd.R_drewN | apply Kd.R_drew)); exact HO_6.out) hb); have n1_ := Aside0.mk (below_step (by repeat (first | (with_reducible first | exact HB.out | apply below_alloc | apply pw_below_drewN | apply below_drew1) | exact HB.out)) hb); clear HO_6; clear HB; have HO_6 := n0_; have HB := n1_; clear n0_ n1_; (try clear hb); (try clear hb2); (try clear hk); (try clear hi)) | ((with_reducible refine gate_callee (f := 13) rfl ?_); refine goesL_ (some 55) rfl rfl Tryd.func13 (by kernel_rfl) rfl #[.string (t232 ++ (rdOf ByteArray.empty y222 t225))] rfl (by (try simp only [List.map_toArray, List.map_cons, List.map_nil]); first | done | rfl | (simp only [List.length_drop, List.length_take]; rfl)) ?_; (with_reducible refine (chancelref1_Quote.calls k1 (t232 ++ (rdOf ByteArray.empty y222 t225)) t234 _ A22.out).mono ?_); rintro e w' ⟨rfl, ⟨nd, rfl⟩⟩; refine ⟨_, rfl, ?_⟩) | ((with_reducible refine gate_callee (f := 12) rfl ?_); refine goesL_ (some 58) rfl rfl Tryd.func12 (by kernel_rfl) rfl #[.string (((⟨#[32]⟩ : ByteArray) ++ t234) ++ (⟨#[32, 47, 47, 32, 98, 101, 104, 105, 110, 100]⟩ : ByteArray))] rfl (by (try simp only [List.map_toArray, List.map_cons, List.map_nil]); first | done | rfl | (simp only [List.length_drop, List.length_take]; rfl)) ?_; (with_reducible refine (lex_Tokens.calls k1 (((⟨#[32]⟩ : ByteArray) ++ t234) ++ (⟨#[32, 47, 47, 32, 98, 101, 104, 105, 110, 100]⟩ : ByteArray)) t235 t236 _ A25.out ?side1).mono ?_); (case side1 => exact Tb.below HT.out (by repeat (first | (with_reducible first | exact HB.out | apply below_alloc | apply pw_below_drewN | apply below_drew1) | exact HB.out))); rintro e w33 ⟨v237, rfl, ho0, hb⟩; refine ⟨_, rfl, ?_⟩; have n0_ := Aside0.mk (Kd.R_below (by (with_reducible repeat (first | apply Kd.R_alloc | apply Kd.R_drewN | apply Kd.R_drew)); exact HO_6.out) hb); have n1_ := Aside0.mk (Kd.R_lower ho0 (below_size (by repeat (first | (with_reducible first | exact HB.out | apply below_alloc | apply pw_below_drewN | apply below_drew1) | exact HB.out)))); have n2_ := Aside0.mk (below_step (by repeat (first | (with_reducible first | exact HB.out | apply below_alloc | apply pw_below_drewN | apply below_drew1) | exact HB.out)) hb); clear HO_6; clear HB; have HO_6 := n0_; have HO238 := n1_; have HB := n2_; clear n0_ n1_ n2_; (try clear hb); (try clear hb2); (try clear hk); (try clear hi); (try clear ho0); obtain ⟨Ao34, co34, eo34⟩ := Kd.R_slice HO238.out; subst eo34; have p239 : 0 ≤ (0 : Int) := (by omega); have q239 : 0 < (t235.length : Int) := of_decide_eq_true (by first | (with_reducible assumption) | assumption); obtain ⟨ad239, e239, hx239_0, hx239_1, hx239_2, hx239_3⟩ := at_T35 (Kd.R_reads' HO238.out).2.2 0 p239 q239; cases e239; have qi239 : (0 < t235.length) = True := eq_true (by omega); (try rw [show ((0 : Int)).toNat = 0 from rfl] at hx239_0); (try rw [show 0 * 4 = 0 from rfl] at hx239_0); (try rw [Addr.add_zero'] at hx239_0); (try rw [show ((0 : Int)).toNat = 0 from rfl] at hx239_1); (try rw [show 0 * 4 = 0 from rfl] at hx239_1); (try rw [Addr.add_zero'] at hx239_1); (try rw [show ((0 : Int)).toNat = 0 from rfl] at hx239_2); (try rw [show 0 * 4 = 0 from rfl] at hx239_2); (try rw [Addr.add_zero'] at hx239_2); (try rw [show ((0 : Int)).toNat = 0 from rfl] at hx239_3); (try rw [show 0 * 4 = 0 from rfl] at hx239_3); (try rw [Addr.add_zero'] at hx239_3); replace p239 := eq_true p239; replace q239 := eq_true q239; have p240 : 0 ≤ (0 : Int) := (by omega); have q240 : 0 < (t235.length : Int) := of_decide_eq_true (by first | (with_reducible assumption) | assumption); obtain ⟨ad240, e240, hx240_0, hx240_1, hx240_2, hx240_3⟩ := at_T35 (Kd.R_reads' HO238.out).2.2 0 p240 q240; obtain rfl : ad239 = ad240 := (by injection e240); have qi240 : (0 < t235.length) = True := eq_true (by omega); (try rw [show ((0 : Int)).toNat = 0 from rfl] at hx240_0); (try rw [show 0 * 4 = 0 from rfl] at hx240_0); (try rw [Addr.add_zero'] at hx240_0); (try rw [show ((0 : Int)).toNat = 0 from rfl] at hx240_1); (try rw [show 0 * 4 = 0 from rfl] at hx240_1); (try rw [Addr.add_zero'] at hx240_1); (try rw [show ((0 : Int)).toNat = 0 from rfl] at hx240_2); (try rw [show 0 * 4 = 0 from rfl] at hx240_2); (try rw [Addr.add_zero'] at hx240_2); (try rw [show ((0 : Int)).toNat = 0 from rfl] at hx240_3); (try rw [show 0 * 4 = 0 from rfl] at hx240_3); (try rw [Addr.add_zero'] at hx240_3); replace p240 := eq_true p240; replace q240 := eq_true q240; have p241 : 0 ≤ (0 : Int) := (by omega); have q241 : 0 < (t235.length : Int) := of_decide_eq_true (by first | (with_reducible assumption) | assumption); obtain ⟨ad241, e241, hx241_0, hx241_1, hx241_2, hx241_3⟩ := at_T35 (Kd.R_reads' HO238.out).2.2 0 p241 q241; obtain rfl : ad239 = ad241 := (by injection e241); have qi241 : (0 < t235.length) = True := eq_true (by omega); (try rw [show ((0 : Int)).toNat = 0 from rfl] at hx241_0); (try rw [show 0 * 4 = 0 from rfl] at hx241_0); (try rw [Addr.add_zero'] at hx241_0); (try rw [show ((0 : Int)).toNat = 0 from rfl] at hx241_1); (try rw [show 0 * 4 = 0 from rfl] at hx241_1); (try rw [Addr.add_zero'] at hx241_1); (try rw [show ((0 : Int)).toNat = 0 from rfl] at hx241_2); (try rw [show 0 * 4 = 0 from rfl] at hx241_2); (try rw [Addr.add_zero'] at hx241_2); (try rw [show ((0 : Int)).toNat = 0 from rfl] at hx241_3); (try rw [show 0 * 4 = 0 from rfl] at hx241_3); (try rw [Addr.add_zero'] at hx241_3); replace p241 := eq_true p241; replace q241 := eq_true q241))
                                go_ret
                                exact ⟨by first | rfl | (simp [errW_none, errW_some] <;> rfl) | (simp [*, errW_none, errW_some] <;> rfl), by repeat (first | (with_reducible first | exact HB.out | apply below_alloc | apply pw_below_drewN | apply below_drew1) | exact HB.out)⟩
                              · rw [if_neg c30] at H
                                have c30b0 : (((rd_T35 t235 0).f1).toList == (t232 ++ (rdOf ByteArray.empty y222 t225)).toList) = false := beq_eq_false_iff_ne.mpr c30
                                have c30b1 : (((rd_T35 t235 0).f1).toList != (t232 ++ (rdOf ByteArray.empty y222 t225)).toList) = true := bne_iff_ne.mpr c30
                                obtain rfl := Option.some.inj H
                                obtain ⟨Ao35, co35, eo35⟩ := Kd.R_slice HO_6.out
                                subst eo35
                                go_wp2_with (first | ((with_reducible refine gate_callee (f := 16) rfl ?_); refine goesL_ (some 42) rfl rfl Tryd.func16 (by kernel_rfl) rfl #[.slice Ao35 x6_1.length co35] rfl (by (try simp only [List.map_toArray, List.map_cons, List.map_nil]); first | done | rfl | (simp only [List.length_drop, List.length_take]; rfl)) ?_; (with_reducible refine (chancelref1_Of.calls k1 _ _ x6_1 t232 t233 _ ?side1 ?side2 A17.out).mono ?_); (case side1 => repeat (first | exact (Kd.R_reads' HO_6.out).2.2 | (with_reducible refine Kd.C_alloc ?_ _) | (with_reducible refine Kd.C_drewN ?_ _) | (with_reducible refine Kd.C_drew ?_))); (case side2 => exact (Kd.R_reads' HO_6.out).2.1); rintro e w36 ⟨rfl, hb⟩; refine ⟨_, rfl, ?_⟩; have n0_ := Aside0.mk (Kd.R_below (by (with_reducible repeat (first | apply Kd.R_alloc | apply Kd.R_drewN | apply Kd.R_drew)); exact HO_6.out) hb); have n1_ := Aside0.mk (below_step (by repeat (first | (with_reducible first | exact HB.out | apply below_alloc | apply pw_below_drewN | apply below_drew1) | exact HB.out)) hb); clear HO_6; clear HB; have HO_6 := n0_; have HB := n1_; clear n0_ n1_; (try clear hb); (try clear hb2); (try clear hk); (try clear hi)) | ((with_reducible refine gate_callee (f := 13) rfl ?_); refine goesL_ (some 55) rfl rfl Tryd.func13 (by kernel_rfl) rfl #[.string (t232 ++ (rdOf ByteArray.empty y222 t225))] rfl (by (try simp only [List.map_toArray, List.map_cons, List.map_nil]); first | done | rfl | (simp only [List.length_drop, List.length_take]; rfl)) ?_; (with_reducible refine (chancelref1_Quote.calls k1 (t232 ++ (rdOf ByteArray.empty y222 t225)) t234 _ A22.out).mono ?_); rintro e w' ⟨rfl, ⟨nd, rfl⟩⟩; refine ⟨_, rfl, ?_⟩) | ((with_reducible refine gate_callee (f := 12) rfl ?_); refine goesL_ (some 58) rfl rfl Tryd.func12 (by kernel_rfl) rfl #[.string (((⟨#[32]⟩ : ByteArray) ++ t234) ++ (⟨#[32, 47, 47, 32, 98, 101, 104, 105, 110, 100]⟩ : ByteArray))] rfl (by (try simp only [List.map_toArray, List.map_cons, List.map_nil]); first | done | rfl | (simp only [List.length_drop, List.length_take]; rfl)) ?_; (with_reducible refine (lex_Tokens.calls k1 (((⟨#[32]⟩ : ByteArray) ++ t234) ++ (⟨#[32, 47, 47, 32, 98, 101, 104, 105, 110, 100]⟩ : ByteArray)) t235 t236 _ A25.out ?side1).mono ?_); (case side1 => exact Tb.below HT.out (by repeat (first | (with_reducible first | exact HB.out | apply below_alloc | apply pw_below_drewN | apply below_drew1) | exact HB.out))); rintro e w37 ⟨v237, rfl, ho0, hb⟩; refine ⟨_, rfl, ?_⟩; have n0_ := Aside0.mk (Kd.R_below (by (with_reducible repeat (first | apply Kd.R_alloc | apply Kd.R_drewN | apply Kd.R_drew)); exact HO_6.out) hb); have n1_ := Aside0.mk (Kd.R_lower ho0 (below_size (by repeat (first | (with_reducible first | exact HB.out | apply below_alloc | apply pw_below_drewN | apply below_drew1) | exact HB.out)))); have n2_ := Aside0.mk (below_step (by repeat (first | (with_reducible first | exact HB.out | apply below_alloc | apply pw_below_drewN | apply below_drew1) | exact HB.out)) hb); clear HO_6; clear HB; have HO_6 := n0_; have HO238 := n1_; have HB := n2_; clear n0_ n1_ n2_; (try clear hb); (try clear hb2); (try clear hk); (try clear hi); (try clear ho0); obtain ⟨Ao38, co38, eo38⟩ := Kd.R_slice HO238.out; subst eo38; have p239 : 0 ≤ (0 : Int) := (by omega); have q239 : 0 < (t235.length : Int) := of_decide_eq_true (by first | (with_reducible assumption) | assumption); obtain ⟨ad239, e239, hx239_0, hx239_1, hx239_2, hx239_3⟩ := at_T35 (Kd.R_reads' HO238.out).2.2 0 p239 q239; cases e239; have qi239 : (0 < t235.length) = True := eq_true (by omega); (try rw [show ((0 : Int)).toNat = 0 from rfl] at hx239_0); (try rw [show 0 * 4 = 0 from rfl] at hx239_0); (try rw [Addr.add_zero'] at hx239_0); (try rw [show ((0 : Int)).toNat = 0 from rfl] at hx239_1); (try rw [show 0 * 4 = 0 from rfl] at hx239_1); (try rw [Addr.add_zero'] at hx239_1); (try rw [show ((0 : Int)).toNat = 0 from rfl] at hx239_2); (try rw [show 0 * 4 = 0 from rfl] at hx239_2); (try rw [Addr.add_zero'] at hx239_2); (try rw [show ((0 : Int)).toNat = 0 from rfl] at hx239_3); (try rw [show 0 * 4 = 0 from rfl] at hx239_3); (try rw [Addr.add_zero'] at hx239_3); replace p239 := eq_true p239; replace q239 := eq_true q239; have p240 : 0 ≤ (0 : Int) := (by omega); have q240 : 0 < (t235.length : Int) := of_decide_eq_true (by first | (with_reducible assumption) | assumption); obtain ⟨ad240, e240, hx240_0, hx240_1, hx240_2, hx240_3⟩ := at_T35 (Kd.R_reads' HO238.out).2.2 0 p240 q240; obtain rfl : ad239 = ad240 := (by injection e240); have qi240 : (0 < t235.length) = True := eq_true (by omega); (try rw [show ((0 : Int)).toNat = 0 from rfl] at hx240_0); (try rw [show 0 * 4 = 0 from rfl] at hx240_0); (try rw [Addr.add_zero'] at hx240_0); (try rw [show ((0 : Int)).toNat = 0 from rfl] at hx240_1); (try rw [show 0 * 4 = 0 from rfl] at hx240_1); (try rw [Addr.add_zero'] at hx240_1); (try rw [show ((0 : Int)).toNat = 0 from rfl] at hx240_2); (try rw [show 0 * 4 = 0 from rfl] at hx240_2); (try rw [Addr.add_zero'] at hx240_2); (try rw [show ((0 : Int)).toNat = 0 from rfl] at hx240_3); (try rw [show 0 * 4 = 0 from rfl] at hx240_3); (try rw [Addr.add_zero'] at hx240_3); replace p240 := eq_true p240; replace q240 := eq_true q240))
                                go_ret
                                exact ⟨by first | rfl | (simp [errW_none, errW_some] <;> rfl) | (simp [*, errW_none, errW_some] <;> rfl), by repeat (first | (with_reducible first | exact HB.out | apply below_alloc | apply pw_below_drewN | apply below_drew1) | exact HB.out)⟩
                            · rw [if_neg c29] at H
                              have c29b0 : (((rd_T35 t235 0).f0) == 3) = false := beq_eq_false_iff_ne.mpr c29
                              have c29b1 : (((rd_T35 t235 0).f0) != 3) = true := bne_iff_ne.mpr c29
                              obtain rfl := Option.some.inj H
                              obtain ⟨Ao39, co39, eo39⟩ := Kd.R_slice HO_6.out
                              subst eo39
                              go_wp2_with (first | ((with_reducible refine gate_callee (f := 16) rfl ?_); refine goesL_ (some 42) rfl rfl Tryd.func16 (by kernel_rfl) rfl #[.slice Ao39 x6_1.length co39] rfl (by (try simp only [List.map_toArray, List.map_cons, List.map_nil]); first | done | rfl | (simp only [List.length_drop, List.length_take]; rfl)) ?_; (with_reducible refine (chancelref1_Of.calls k1 _ _ x6_1 t232 t233 _ ?side1 ?side2 A17.out).mono ?_); (case side1 => repeat (first | exact (Kd.R_reads' HO_6.out).2.2 | (with_reducible refine Kd.C_alloc ?_ _) | (with_reducible refine Kd.C_drewN ?_ _) | (with_reducible refine Kd.C_drew ?_))); (case side2 => exact (Kd.R_reads' HO_6.out).2.1); rintro e w40 ⟨rfl, hb⟩; refine ⟨_, rfl, ?_⟩; have n0_ := Aside0.mk (Kd.R_below (by (with_reducible repeat (first | apply Kd.R_alloc | apply Kd.R_drewN | apply Kd.R_drew)); exact HO_6.out) hb); have n1_ := Aside0.mk (below_step (by repeat (first | (with_reducible first | exact HB.out | apply below_alloc | apply pw_below_drewN | apply below_drew1) | exact HB.out)) hb); clear HO_6; clear HB; have HO_6 := n0_; have HB := n1_; clear n0_ n1_; (try clear hb); (try clear hb2); (try clear hk); (try clear hi)) | ((with_reducible refine gate_callee (f := 13) rfl ?_); refine goesL_ (some 55) rfl rfl Tryd.func13 (by kernel_rfl) rfl #[.string (t232 ++ (rdOf ByteArray.empty y222 t225))] rfl (by (try simp only [List.map_toArray, List.map_cons, List.map_nil]); first | done | rfl | (simp only [List.length_drop, List.length_take]; rfl)) ?_; (with_reducible refine (chancelref1_Quote.calls k1 (t232 ++ (rdOf ByteArray.empty y222 t225)) t234 _ A22.out).mono ?_); rintro e w' ⟨rfl, ⟨nd, rfl⟩⟩; refine ⟨_, rfl, ?_⟩) | ((with_reducible refine gate_callee (f := 12) rfl ?_); refine goesL_ (some 58) rfl rfl Tryd.func12 (by kernel_rfl) rfl #[.string (((⟨#[32]⟩ : ByteArray) ++ t234) ++ (⟨#[32, 47, 47, 32, 98, 101, 104, 105, 110, 100]⟩ : ByteArray))] rfl (by (try simp only [List.map_toArray, List.map_cons, List.map_nil]); first | done | rfl | (simp only [List.length_drop, List.length_take]; rfl)) ?_; (with_reducible refine (lex_Tokens.calls k1 (((⟨#[32]⟩ : ByteArray) ++ t234) ++ (⟨#[32, 47, 47, 32, 98, 101, 104, 105, 110, 100]⟩ : ByteArray)) t235 t236 _ A25.out ?side1).mono ?_); (case side1 => exact Tb.below HT.out (by repeat (first | (with_reducible first | exact HB.out | apply below_alloc | apply pw_below_drewN | apply below_drew1) | exact HB.out))); rintro e w41 ⟨v237, rfl, ho0, hb⟩; refine ⟨_, rfl, ?_⟩; have n0_ := Aside0.mk (Kd.R_below (by (with_reducible repeat (first | apply Kd.R_alloc | apply Kd.R_drewN | apply Kd.R_drew)); exact HO_6.out) hb); have n1_ := Aside0.mk (Kd.R_lower ho0 (below_size (by repeat (first | (with_reducible first | exact HB.out | apply below_alloc | apply pw_below_drewN | apply below_drew1) | exact HB.out)))); have n2_ := Aside0.mk (below_step (by repeat (first | (with_reducible first | exact HB.out | apply below_alloc | apply pw_below_drewN | apply below_drew1) | exact HB.out)) hb); clear HO_6; clear HB; have HO_6 := n0_; have HO238 := n1_; have HB := n2_; clear n0_ n1_ n2_; (try clear hb); (try clear hb2); (try clear hk); (try clear hi); (try clear ho0); obtain ⟨Ao42, co42, eo42⟩ := Kd.R_slice HO238.out; subst eo42; have p239 : 0 ≤ (0 : Int) := (by omega); have q239 : 0 < (t235.length : Int) := of_decide_eq_true (by first | (with_reducible assumption) | assumption); obtain ⟨ad239, e239, hx239_0, hx239_1, hx239_2, hx239_3⟩ := at_T35 (Kd.R_reads' HO238.out).2.2 0 p239 q239; cases e239; have qi239 : (0 < t235.length) = True := eq_true (by omega); (try rw [show ((0 : Int)).toNat = 0 from rfl] at hx239_0); (try rw [show 0 * 4 = 0 from rfl] at hx239_0); (try rw [Addr.add_zero'] at hx239_0); (try rw [show ((0 : Int)).toNat = 0 from rfl] at hx239_1); (try rw [show 0 * 4 = 0 from rfl] at hx239_1); (try rw [Addr.add_zero'] at hx239_1); (try rw [show ((0 : Int)).toNat = 0 from rfl] at hx239_2); (try rw [show 0 * 4 = 0 from rfl] at hx239_2); (try rw [Addr.add_zero'] at hx239_2); (try rw [show ((0 : Int)).toNat = 0 from rfl] at hx239_3); (try rw [show 0 * 4 = 0 from rfl] at hx239_3); (try rw [Addr.add_zero'] at hx239_3); replace p239 := eq_true p239; replace q239 := eq_true q239))
                              go_ret
                              exact ⟨by first | rfl | (simp [errW_none, errW_some] <;> rfl) | (simp [*, errW_none, errW_some] <;> rfl), by repeat (first | (with_reducible first | exact HB.out | apply below_alloc | apply pw_below_drewN | apply below_drew1) | exact HB.out)⟩
                          · rw [if_neg c28] at H
                            exact absurd H (by simp)
                        · rw [if_neg c27] at H
                          have c27b0 : ((t235.length : Int) == 1) = false := beq_eq_false_iff_ne.mpr c27
                          have c27b1 : ((t235.length : Int) != 1) = true := bne_iff_ne.mpr c27
                          obtain rfl := Option.some.inj H
                          obtain ⟨Ao43, co43, eo43⟩ := Kd.R_slice HO_6.out
                          subst eo43
                          go_wp2_with (first | ((with_reducible refine gate_callee (f := 16) rfl ?_); refine goesL_ (some 42) rfl rfl Tryd.func16 (by kernel_rfl) rfl #[.slice Ao43 x6_1.length co43] rfl (by (try simp only [List.map_toArray, List.map_cons, List.map_nil]); first | done | rfl | (simp only [List.length_drop, List.length_take]; rfl)) ?_; (with_reducible refine (chancelref1_Of.calls k1 _ _ x6_1 t232 t233 _ ?side1 ?side2 A17.out).mono ?_); (case side1 => repeat (first | exact (Kd.R_reads' HO_6.out).2.2 | (with_reducible refine Kd.C_alloc ?_ _) | (with_reducible refine Kd.C_drewN ?_ _) | (with_reducible refine Kd.C_drew ?_))); (case side2 => exact (Kd.R_reads' HO_6.out).2.1); rintro e w44 ⟨rfl, hb⟩; refine ⟨_, rfl, ?_⟩; have n0_ := Aside0.mk (Kd.R_below (by (with_reducible repeat (first | apply Kd.R_alloc | apply Kd.R_drewN | apply Kd.R_drew)); exact HO_6.out) hb); have n1_ := Aside0.mk (below_step (by repeat (first | (with_reducible first | exact HB.out | apply below_alloc | apply pw_below_drewN | apply below_drew1) | exact HB.out)) hb); clear HO_6; clear HB; have HO_6 := n0_; have HB := n1_; clear n0_ n1_; (try clear hb); (try clear hb2); (try clear hk); (try clear hi)) | ((with_reducible refine gate_callee (f := 13) rfl ?_); refine goesL_ (some 55) rfl rfl Tryd.func13 (by kernel_rfl) rfl #[.string (t232 ++ (rdOf ByteArray.empty y222 t225))] rfl (by (try simp only [List.map_toArray, List.map_cons, List.map_nil]); first | done | rfl | (simp only [List.length_drop, List.length_take]; rfl)) ?_; (with_reducible refine (chancelref1_Quote.calls k1 (t232 ++ (rdOf ByteArray.empty y222 t225)) t234 _ A22.out).mono ?_); rintro e w' ⟨rfl, ⟨nd, rfl⟩⟩; refine ⟨_, rfl, ?_⟩) | ((with_reducible refine gate_callee (f := 12) rfl ?_); refine goesL_ (some 58) rfl rfl Tryd.func12 (by kernel_rfl) rfl #[.string (((⟨#[32]⟩ : ByteArray) ++ t234) ++ (⟨#[32, 47, 47, 32, 98, 101, 104, 105, 110, 100]⟩ : ByteArray))] rfl (by (try simp only [List.map_toArray, List.map_cons, List.map_nil]); first | done | rfl | (simp only [List.length_drop, List.length_take]; rfl)) ?_; (with_reducible refine (lex_Tokens.calls k1 (((⟨#[32]⟩ : ByteArray) ++ t234) ++ (⟨#[32, 47, 47, 32, 98, 101, 104, 105, 110, 100]⟩ : ByteArray)) t235 t236 _ A25.out ?side1).mono ?_); (case side1 => exact Tb.below HT.out (by repeat (first | (with_reducible first | exact HB.out | apply below_alloc | apply pw_below_drewN | apply below_drew1) | exact HB.out))); rintro e w45 ⟨v237, rfl, ho0, hb⟩; refine ⟨_, rfl, ?_⟩; have n0_ := Aside0.mk (Kd.R_below (by (with_reducible repeat (first | apply Kd.R_alloc | apply Kd.R_drewN | apply Kd.R_drew)); exact HO_6.out) hb); have n1_ := Aside0.mk (Kd.R_lower ho0 (below_size (by repeat (first | (with_reducible first | exact HB.out | apply below_alloc | apply pw_below_drewN | apply below_drew1) | exact HB.out)))); have n2_ := Aside0.mk (below_step (by repeat (first | (with_reducible first | exact HB.out | apply below_alloc | apply pw_below_drewN | apply below_drew1) | exact HB.out)) hb); clear HO_6; clear HB; have HO_6 := n0_; have HO238 := n1_; have HB := n2_; clear n0_ n1_ n2_; (try clear hb); (try clear hb2); (try clear hk); (try clear hi); (try clear ho0); obtain ⟨Ao46, co46, eo46⟩ := Kd.R_slice HO238.out; subst eo46))
                          go_ret
                          exact ⟨by first | rfl | (simp [errW_none, errW_some] <;> rfl) | (simp [*, errW_none, errW_some] <;> rfl), by repeat (first | (with_reducible first | exact HB.out | apply below_alloc | apply pw_below_drewN | apply below_drew1) | exact HB.out)⟩
                      · rw [if_neg c26] at H
                        have c26b0 : (t236 == 0) = false := beq_eq_false_iff_ne.mpr c26
                        have c26b1 : (t236 != 0) = true := bne_iff_ne.mpr c26
                        obtain rfl := Option.some.inj H
                        obtain ⟨Ao47, co47, eo47⟩ := Kd.R_slice HO_6.out
                        subst eo47
                        go_wp2_with (first | ((with_reducible refine gate_callee (f := 16) rfl ?_); refine goesL_ (some 42) rfl rfl Tryd.func16 (by kernel_rfl) rfl #[.slice Ao47 x6_1.length co47] rfl (by (try simp only [List.map_toArray, List.map_cons, List.map_nil]); first | done | rfl | (simp only [List.length_drop, List.length_take]; rfl)) ?_; (with_reducible refine (chancelref1_Of.calls k1 _ _ x6_1 t232 t233 _ ?side1 ?side2 A17.out).mono ?_); (case side1 => repeat (first | exact (Kd.R_reads' HO_6.out).2.2 | (with_reducible refine Kd.C_alloc ?_ _) | (with_reducible refine Kd.C_drewN ?_ _) | (with_reducible refine Kd.C_drew ?_))); (case side2 => exact (Kd.R_reads' HO_6.out).2.1); rintro e w48 ⟨rfl, hb⟩; refine ⟨_, rfl, ?_⟩; have n0_ := Aside0.mk (Kd.R_below (by (with_reducible repeat (first | apply Kd.R_alloc | apply Kd.R_drewN | apply Kd.R_drew)); exact HO_6.out) hb); have n1_ := Aside0.mk (below_step (by repeat (first | (with_reducible first | exact HB.out | apply below_alloc | apply pw_below_drewN | apply below_drew1) | exact HB.out)) hb); clear HO_6; clear HB; have HO_6 := n0_; have HB := n1_; clear n0_ n1_; (try clear hb); (try clear hb2); (try clear hk); (try clear hi)) | ((with_reducible refine gate_callee (f := 13) rfl ?_); refine goesL_ (some 55) rfl rfl Tryd.func13 (by kernel_rfl) rfl #[.string (t232 ++ (rdOf ByteArray.empty y222 t225))] rfl (by (try simp only [List.map_toArray, List.map_cons, List.map_nil]); first | done | rfl | (simp only [List.length_drop, List.length_take]; rfl)) ?_; (with_reducible refine (chancelref1_Quote.calls k1 (t232 ++ (rdOf ByteArray.empty y222 t225)) t234 _ A22.out).mono ?_); rintro e w' ⟨rfl, ⟨nd, rfl⟩⟩; refine ⟨_, rfl, ?_⟩) | ((with_reducible refine gate_callee (f := 12) rfl ?_); refine goesL_ (some 58) rfl rfl Tryd.func12 (by kernel_rfl) rfl #[.string (((⟨#[32]⟩ : ByteArray) ++ t234) ++ (⟨#[32, 47, 47, 32, 98, 101, 104, 105, 110, 100]⟩ : ByteArray))] rfl (by (try simp only [List.map_toArray, List.map_cons, List.map_nil]); first | done | rfl | (simp only [List.length_drop, List.length_take]; rfl)) ?_; (with_reducible refine (lex_Tokens.calls k1 (((⟨#[32]⟩ : ByteArray) ++ t234) ++ (⟨#[32, 47, 47, 32, 98, 101, 104, 105, 110, 100]⟩ : ByteArray)) t235 t236 _ A25.out ?side1).mono ?_); (case side1 => exact Tb.below HT.out (by repeat (first | (with_reducible first | exact HB.out | apply below_alloc | apply pw_below_drewN | apply below_drew1) | exact HB.out))); rintro e w49 ⟨v237, rfl, ho0, hb⟩; refine ⟨_, rfl, ?_⟩; have n0_ := Aside0.mk (Kd.R_below (by (with_reducible repeat (first | apply Kd.R_alloc | apply Kd.R_drewN | apply Kd.R_drew)); exact HO_6.out) hb); have n1_ := Aside0.mk (Kd.R_lower ho0 (below_size (by repeat (first | (with_reducible first | exact HB.out | apply below_alloc | apply pw_below_drewN | apply below_drew1) | exact HB.out)))); have n2_ := Aside0.mk (below_step (by repeat (first | (with_reducible first | exact HB.out | apply below_alloc | apply pw_below_drewN | apply below_drew1) | exact HB.out)) hb); clear HO_6; clear HB; have HO_6 := n0_; have HO238 := n1_; have HB := n2_; clear n0_ n1_ n2_; (try clear hb); (try clear hb2); (try clear hk); (try clear hi); (try clear ho0)))
                        go_ret
                        exact ⟨by first | rfl | (simp [errW_none, errW_some] <;> rfl) | (simp [*, errW_none, errW_some] <;> rfl), by repeat (first | (with_reducible first | exact HB.out | apply below_alloc | apply pw_below_drewN | apply below_drew1) | exact HB.out)⟩
                    · rw [if_neg c24] at H
                      exact absurd H (by simp)
                  · rw [if_neg c23] at H
                    exact absurd H (by simp)
                · rw [if_neg c21] at H
                  exact absurd H (by simp)
      · rw [if_neg c7] at H
        exact absurd H (by simp)
    · rw [if_neg c6] at H
      exact absurd H (by simp)
  · replace c4 := Bool.eq_false_iff.mpr c4
    subst c4
    have H1 : (some false) = some r := by rw [if_neg (show ¬ (false = true) by decide)] at H; exact H
    clear H
    have H := H1
    clear H1
    obtain rfl := Option.some.inj H
    go_enter Tryd.func6, Tryd.ntmps6
    go_wp2_with (first | ((with_reducible refine gate_callee (f := 8) rfl ?_); refine goesL_ (some 12) rfl rfl Tryd.func8 (by kernel_rfl) rfl #[] rfl (by (try simp only [List.map_toArray, List.map_cons, List.map_nil]); first | done | rfl | (simp only [List.length_drop, List.length_take]; rfl)) ?_; (with_reducible refine (chancellaw4_known.calls k  false _ A3.out ?side1).mono ?_); (case side1 => exact Tb.below HT.out (by repeat (first | (with_reducible first | exact HB.out | apply below_alloc | apply pw_below_drewN | apply below_drew1) | exact HB.out))); rintro e w50 ⟨rfl, hb⟩; refine ⟨_, rfl, ?_⟩; have n0_ := Aside0.mk (below_step (by repeat (first | (with_reducible first | exact HB.out | apply below_alloc | apply pw_below_drewN | apply below_drew1) | exact HB.out)) hb); clear HB; have HB := n0_; clear n0_; (try clear hb); (try clear hb2); (try clear hk); (try clear hi)))
    go_ret
    exact ⟨by first | rfl | (simp [errW_none, errW_some] <;> rfl) | (simp [*, errW_none, errW_some] <;> rfl), by repeat (first | (with_reducible first | exact HB.out | apply below_alloc | apply pw_below_drewN | apply below_drew1) | exact HB.out)⟩

/-- THE ONE PURE STATEMENT of chancellaw4_LexStrings: yours. -/
def chancellaw4_LexStrings.Pure : Prop := ∀ (l0 : List Int) (a1 : Int), l0.length ≤ 25 → (∀ x ∈ l0, (Lit.int .i64 x).wf = true) → (Lit.int .i64 a1).wf = true → ∃ k, chancellaw4_LexStrings.f k l0 a1 = some true
theorem chancellaw4_LexStrings.walk (P : chancellaw4_LexStrings.Pure) (a0 : Option Addr) (len0 cap0 : Nat) (z0 : List Int) (a1 : Int) (w : World) (w0 : (a0 = none ∧ len0 = 0 ∧ cap0 = 0 ∧ z0 = []) ∨ ∃ x, a0 = some x ∧ len0 ≤ cap0 ∧ cap0 ≤ maxLen ∧ z0.length = cap0 ∧ (∀ i, i < z0.length → w.cell? (x.add i) = some (.int .i64 (z0.getD i 0))) ∧ ∀ n ∈ z0, (Lit.int .i64 n).wf = true) (y0 : len0 * 8 ≤ 140737488351232) (w1 : (Lit.int .i64 a1).wf = true) (hT : Tb w) :
    Calls Tryd.prog 6 #[.slice a0 len0 cap0, .int .i64 a1] w fun e w' => e = .returned (.bool true) ∧ Below w.heap.size w w' := by
  rcases Nat.lt_or_ge 25 len0 with hlt | hge
  · rcases w0 with ⟨_, h0, _⟩ | ⟨x, rfl, h1, h2, h3, h4, h5⟩
    · omega
    · obtain ⟨l0, hl, hr0, hm0, hw0, hc0⟩ := ReadsInt.ofRowC (k := .i64) (w := w) (a := some x) (len := 25) (cap := cap0) (zs := z0) (.inr ⟨x, rfl, by omega, h2, h3, h4, h5⟩)
      obtain ⟨k, h⟩ := P l0 a1 (by omega) hw0 w1
      refine (chancellaw4_LexStrings.calls_cut k x len0 cap0 l0 a1 true w (Kd.C_of_reads (d := (0 : Int)) (h1 := fun _ => rfl) hr0) hl.symm hlt h1 h hT).mono ?_
      rintro e w' ⟨rfl, hd⟩
      exact ⟨rfl, hd⟩
  · obtain ⟨l0, rfl, hr0, hm0, hw0, hc0⟩ := ReadsInt.ofRowC w0
    obtain ⟨k, h⟩ := P l0 a1 hge hw0 w1
    refine (chancellaw4_LexStrings.calls k _ _ l0 a1 true w (Kd.C_of_reads (d := (0 : Int)) (h1 := fun _ => rfl) hr0) hc0 hge h hT).mono ?_
    rintro e w' ⟨rfl, hd⟩
    exact ⟨rfl, hd⟩

end Go.Proofs.YtaiegjgbdfmfpaaDoor.GL
