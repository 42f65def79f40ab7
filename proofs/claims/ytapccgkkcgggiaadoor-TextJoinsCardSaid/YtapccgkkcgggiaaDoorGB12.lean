-- Written by wip/tools/gprint.py over the kit's printer.
import Derived.Test.YtapccgkkcgggiaaDoorGB0
import Derived.Test.YtapccgkkcgggiaaDoorGB1
import Derived.Test.YtapccgkkcgggiaaDoorGB9
import Derived.Test.YtapccgkkcgggiaaDoorGB10
namespace Go.Proofs.YtapccgkkcgggiaaDoor.GB
open Go.RowKit Go.Proofs.YtapccgkkcgggiaaDoorW.PrintWords Go.Proofs.YtapccgkkcgggiaaDoorW.PrintLast Go.Proofs.YtapccgkkcgggiaaDoor.HandB Go.Proofs.YtapccgkkcgggiaaDoorW.PrintMore
attribute [local go_sem] max2_int min2_int max_two min_two max_three min_three max_four min_four   -- for this text's walks alone
set_option linter.unusedVariables false
set_option linter.unusedSimpArgs false

/-! ### chancellaw1_TextJoins: function 6 -/
def chancellaw1_TextJoins.j0 : Nat → ByteArray → ByteArray → Bool → Option (Bool)
  | 0, _, _, _ => none
  | k + 1, x5, x6, x59 => if x59 = true then (some false) else ((text_Quote.f x5).bind fun t271 => ((text_Quote.f x6).bind fun t272 => (if x5.size + x6.size ≤ 9223372036854775807 then ((text_Quote.f (x5 ++ x6)).bind fun t273 => (if 0 ≤ (wrap64 ((t271.size : Int) - 1)) then (if (wrap64 ((t271.size : Int) - 1)) ≤ (t271.size : Int) then (if 1 ≤ (t272.size : Int) then (if (t271.extract 0 ((wrap64 ((t271.size : Int) - 1)) : Int).toNat).size + (t272.extract 1 t272.size).size ≤ 9223372036854775807 then (some (((t271.extract 0 ((wrap64 ((t271.size : Int) - 1)) : Int).toNat) ++ (t272.extract 1 t272.size)).toList == t273.toList)) else (none)) else (none)) else (none)) else (none))) else (none))))
def chancellaw1_TextJoins.f (k : Nat) (l0 : List Int) (l1 : List Int) : Option (Bool) := (chancellaw1_known.f k).bind fun t248 => (if t248 = true then ((chancellaw1_Of.f k l0).bind fun t249 => ((chancellaw1_Of.f k l1).bind fun t250 => ((text_Runes.f t249).bind fun t251 => ((text_Runes.f t250).bind fun t254 => (if t249.size + t250.size ≤ 9223372036854775807 then ((text_Runes.f (t249 ++ t250)).bind fun t257 => (if (t257.length : Int) = (wrap64 ((t251.length : Int) + (t254.length : Int))) then (if 0 ≤ (t251.length : Int) then (if (t251.length : Int) ≤ (t257.length : Int) then ((chancellaw1_same.f k (t257.take ((t251.length : Int) : Int).toNat) t251).bind fun t264 => (if t264 = true then ((chancellaw1_same.f k (t257.drop ((t251.length : Int) : Int).toNat) t254).bind fun t269 => (if t269 = true then ((text_Check.f (t249 ++ t250)).bind fun t270 => (chancellaw1_TextJoins.j0 k t249 t250 (t270 != 0))) else (chancellaw1_TextJoins.j0 k t249 t250 true))) else (chancellaw1_TextJoins.j0 k t249 t250 true))) else (none)) else (none)) else (chancellaw1_TextJoins.j0 k t249 t250 true))) else (none)))))) else (some false))
theorem chancellaw1_TextJoins.mono_l : ∀ k, (∀ y0 y1 y2, LeO (chancellaw1_TextJoins.j0 k y0 y1 y2) (chancellaw1_TextJoins.j0 (k + 1) y0 y1 y2))
  | 0 => fun _ _ _ r h => by simp [chancellaw1_TextJoins.j0] at h
  | k + 1 => by
    have ih0 := chancellaw1_TextJoins.mono_l k
    · intro y0 y1 y2
      unfold chancellaw1_TextJoins.j0
      repeat' first
      | (with_reducible exact ih0 _ _ _)
      | (with_reducible exact chancellaw1_Of.mono _ _)
      | (with_reducible exact chancellaw1_known.mono _)
      | (with_reducible exact chancellaw1_same.mono _ _ _)
      | (with_reducible exact LeO.refl _)
      | (with_reducible exact LeO.none _)
      | (with_reducible refine LeO.ite ?_ ?_)
      | (with_reducible refine LeO.bind ?_ (fun _ => ?_))
      | exact ih0 _ _ _
      | exact chancellaw1_Of.mono _ _
      | exact chancellaw1_known.mono _
      | exact chancellaw1_same.mono _ _ _
      | exact LeO.none _
      | refine LeO.ite ?_ ?_
      | refine LeO.bind ?_ (fun _ => ?_)
theorem chancellaw1_TextJoins.mono : ∀ a0 a1 k, LeO (chancellaw1_TextJoins.f k a0 a1) (chancellaw1_TextJoins.f (k + 1) a0 a1) := by
  intro a0 a1 k
  have ih0 := chancellaw1_TextJoins.mono_l k
  unfold chancellaw1_TextJoins.f
  repeat' first
      | (with_reducible exact ih0 _ _ _)
      | (with_reducible exact chancellaw1_Of.mono _ _)
      | (with_reducible exact chancellaw1_known.mono _)
      | (with_reducible exact chancellaw1_same.mono _ _ _)
      | (with_reducible exact LeO.refl _)
      | (with_reducible exact LeO.none _)
      | (with_reducible refine LeO.ite ?_ ?_)
      | (with_reducible refine LeO.bind ?_ (fun _ => ?_))
      | exact ih0 _ _ _
      | exact chancellaw1_Of.mono _ _
      | exact chancellaw1_known.mono _
      | exact chancellaw1_same.mono _ _ _
      | exact LeO.none _
      | refine LeO.ite ?_ ?_
      | refine LeO.bind ?_ (fun _ => ?_)
set_option maxHeartbeats 8000000 in
set_option maxRecDepth 100000 in
theorem chancellaw1_TextJoins.calls (k : Nat) (A0 : Option Addr) (c0 : Nat) (l0 : List Int) (A1 : Option Addr) (c1 : Nat) (l1 : List Int) (r : Bool) (w : World) (hr0 : Kd.C (Kd.int .i64) w A0 l0.length l0) (hc0 : l0.length ≤ c0) (hr1 : Kd.C (Kd.int .i64) w A1 l1.length l1) (hc1 : l1.length ≤ c1) (h : chancellaw1_TextJoins.f k l0 l1 = some r) (hT : Tb w) :
    Calls Tryd.prog 6 #[.slice A0 l0.length c0, .slice A1 l1.length c1] w fun e w' => e = .returned (.bool r) ∧ Below w.heap.size w w' := by
  have HR0 := Aside0.mk hr0
  have HC0 := Aside0.mk hc0
  clear hr0 hc0
  have HR1 := Aside0.mk hr1
  have HC1 := Aside0.mk hc1
  clear hr1 hc1
  have HB := Aside0.mk (Below.refl w.heap.size w)
  have H : ((chancellaw1_known.f k).bind fun t248 => (if t248 = true then ((chancellaw1_Of.f k l0).bind fun t249 => ((chancellaw1_Of.f k l1).bind fun t250 => ((text_Runes.f t249).bind fun t251 => ((text_Runes.f t250).bind fun t254 => (if t249.size + t250.size ≤ 9223372036854775807 then ((text_Runes.f (t249 ++ t250)).bind fun t257 => (if (t257.length : Int) = (wrap64 ((t251.length : Int) + (t254.length : Int))) then (if 0 ≤ (t251.length : Int) then (if (t251.length : Int) ≤ (t257.length : Int) then ((chancellaw1_same.f k (t257.take ((t251.length : Int) : Int).toNat) t251).bind fun t264 => (if t264 = true then ((chancellaw1_same.f k (t257.drop ((t251.length : Int) : Int).toNat) t254).bind fun t269 => (if t269 = true then ((text_Check.f (t249 ++ t250)).bind fun t270 => (chancellaw1_TextJoins.j0 k t249 t250 (t270 != 0))) else (chancellaw1_TextJoins.j0 k t249 t250 true))) else (chancellaw1_TextJoins.j0 k t249 t250 true))) else (none)) else (none)) else (chancellaw1_TextJoins.j0 k t249 t250 true))) else (none)))))) else (some false))) = some r := h
  clear h
  have HT := Aside0.mk hT
  clear hT
  replace H := Option.bind_eq_some_iff.mp H
  obtain ⟨t248, A30, H⟩ := H
  replace H : (if t248 = true then ((chancellaw1_Of.f k l0).bind fun t249 => ((chancellaw1_Of.f k l1).bind fun t250 => ((text_Runes.f t249).bind fun t251 => ((text_Runes.f t250).bind fun t254 => (if t249.size + t250.size ≤ 9223372036854775807 then ((text_Runes.f (t249 ++ t250)).bind fun t257 => (if (t257.length : Int) = (wrap64 ((t251.length : Int) + (t254.length : Int))) then (if 0 ≤ (t251.length : Int) then (if (t251.length : Int) ≤ (t257.length : Int) then ((chancellaw1_same.f k (t257.take ((t251.length : Int) : Int).toNat) t251).bind fun t264 => (if t264 = true then ((chancellaw1_same.f k (t257.drop ((t251.length : Int) : Int).toNat) t254).bind fun t269 => (if t269 = true then ((text_Check.f (t249 ++ t250)).bind fun t270 => (chancellaw1_TextJoins.j0 k t249 t250 (t270 != 0))) else (chancellaw1_TextJoins.j0 k t249 t250 true))) else (chancellaw1_TextJoins.j0 k t249 t250 true))) else (none)) else (none)) else (chancellaw1_TextJoins.j0 k t249 t250 true))) else (none)))))) else (some false)) = some r := H
  have A3 := Aside0.mk A30
  clear A30
  by_cases c4 : t248 = true
  · subst c4
    have H1 : ((chancellaw1_Of.f k l0).bind fun t249 => ((chancellaw1_Of.f k l1).bind fun t250 => ((text_Runes.f t249).bind fun t251 => ((text_Runes.f t250).bind fun t254 => (if t249.size + t250.size ≤ 9223372036854775807 then ((text_Runes.f (t249 ++ t250)).bind fun t257 => (if (t257.length : Int) = (wrap64 ((t251.length : Int) + (t254.length : Int))) then (if 0 ≤ (t251.length : Int) then (if (t251.length : Int) ≤ (t257.length : Int) then ((chancellaw1_same.f k (t257.take ((t251.length : Int) : Int).toNat) t251).bind fun t264 => (if t264 = true then ((chancellaw1_same.f k (t257.drop ((t251.length : Int) : Int).toNat) t254).bind fun t269 => (if t269 = true then ((text_Check.f (t249 ++ t250)).bind fun t270 => (chancellaw1_TextJoins.j0 k t249 t250 (t270 != 0))) else (chancellaw1_TextJoins.j0 k t249 t250 true))) else (chancellaw1_TextJoins.j0 k t249 t250 true))) else (none)) else (none)) else (chancellaw1_TextJoins.j0 k t249 t250 true))) else (none)))))) = some r := by rw [if_pos rfl] at H; exact H
    clear H
    have H := H1
    clear H1
    replace H := Option.bind_eq_some_iff.mp H
    obtain ⟨t249, A50, H⟩ := H
    replace H : ((chancellaw1_Of.f k l1).bind fun t250 => ((text_Runes.f t249).bind fun t251 => ((text_Runes.f t250).bind fun t254 => (if t249.size + t250.size ≤ 9223372036854775807 then ((text_Runes.f (t249 ++ t250)).bind fun t257 => (if (t257.length : Int) = (wrap64 ((t251.length : Int) + (t254.length : Int))) then (if 0 ≤ (t251.length : Int) then (if (t251.length : Int) ≤ (t257.length : Int) then ((chancellaw1_same.f k (t257.take ((t251.length : Int) : Int).toNat) t251).bind fun t264 => (if t264 = true then ((chancellaw1_same.f k (t257.drop ((t251.length : Int) : Int).toNat) t254).bind fun t269 => (if t269 = true then ((text_Check.f (t249 ++ t250)).bind fun t270 => (chancellaw1_TextJoins.j0 k t249 t250 (t270 != 0))) else (chancellaw1_TextJoins.j0 k t249 t250 true))) else (chancellaw1_TextJoins.j0 k t249 t250 true))) else (none)) else (none)) else (chancellaw1_TextJoins.j0 k t249 t250 true))) else (none))))) = some r := H
    have A5 := Aside0.mk A50
    clear A50
    replace H := Option.bind_eq_some_iff.mp H
    obtain ⟨t250, A60, H⟩ := H
    replace H : ((text_Runes.f t249).bind fun t251 => ((text_Runes.f t250).bind fun t254 => (if t249.size + t250.size ≤ 9223372036854775807 then ((text_Runes.f (t249 ++ t250)).bind fun t257 => (if (t257.length : Int) = (wrap64 ((t251.length : Int) + (t254.length : Int))) then (if 0 ≤ (t251.length : Int) then (if (t251.length : Int) ≤ (t257.length : Int) then ((chancellaw1_same.f k (t257.take ((t251.length : Int) : Int).toNat) t251).bind fun t264 => (if t264 = true then ((chancellaw1_same.f k (t257.drop ((t251.length : Int) : Int).toNat) t254).bind fun t269 => (if t269 = true then ((text_Check.f (t249 ++ t250)).bind fun t270 => (chancellaw1_TextJoins.j0 k t249 t250 (t270 != 0))) else (chancellaw1_TextJoins.j0 k t249 t250 true))) else (chancellaw1_TextJoins.j0 k t249 t250 true))) else (none)) else (none)) else (chancellaw1_TextJoins.j0 k t249 t250 true))) else (none)))) = some r := H
    have A6 := Aside0.mk A60
    clear A60
    replace H := Option.bind_eq_some_iff.mp H
    obtain ⟨t251, A70, H⟩ := H
    replace H : ((text_Runes.f t250).bind fun t254 => (if t249.size + t250.size ≤ 9223372036854775807 then ((text_Runes.f (t249 ++ t250)).bind fun t257 => (if (t257.length : Int) = (wrap64 ((t251.length : Int) + (t254.length : Int))) then (if 0 ≤ (t251.length : Int) then (if (t251.length : Int) ≤ (t257.length : Int) then ((chancellaw1_same.f k (t257.take ((t251.length : Int) : Int).toNat) t251).bind fun t264 => (if t264 = true then ((chancellaw1_same.f k (t257.drop ((t251.length : Int) : Int).toNat) t254).bind fun t269 => (if t269 = true then ((text_Check.f (t249 ++ t250)).bind fun t270 => (chancellaw1_TextJoins.j0 k t249 t250 (t270 != 0))) else (chancellaw1_TextJoins.j0 k t249 t250 true))) else (chancellaw1_TextJoins.j0 k t249 t250 true))) else (none)) else (none)) else (chancellaw1_TextJoins.j0 k t249 t250 true))) else (none))) = some r := H
    have A7 := Aside0.mk A70
    clear A70
    replace H := Option.bind_eq_some_iff.mp H
    obtain ⟨t254, A80, H⟩ := H
    replace H : (if t249.size + t250.size ≤ 9223372036854775807 then ((text_Runes.f (t249 ++ t250)).bind fun t257 => (if (t257.length : Int) = (wrap64 ((t251.length : Int) + (t254.length : Int))) then (if 0 ≤ (t251.length : Int) then (if (t251.length : Int) ≤ (t257.length : Int) then ((chancellaw1_same.f k (t257.take ((t251.length : Int) : Int).toNat) t251).bind fun t264 => (if t264 = true then ((chancellaw1_same.f k (t257.drop ((t251.length : Int) : Int).toNat) t254).bind fun t269 => (if t269 = true then ((text_Check.f (t249 ++ t250)).bind fun t270 => (chancellaw1_TextJoins.j0 k t249 t250 (t270 != 0))) else (chancellaw1_TextJoins.j0 k t249 t250 true))) else (chancellaw1_TextJoins.j0 k t249 t250 true))) else (none)) else (none)) else (chancellaw1_TextJoins.j0 k t249 t250 true))) else (none)) = some r := H
    have A8 := Aside0.mk A80
    clear A80
    by_cases c9 : t249.size + t250.size ≤ 9223372036854775807
    · rw [if_pos c9] at H
      have c9b0 := eq_true c9
      have c9b1 : decide (t249.size + t250.size ≤ 9223372036854775807) = true := decide_eq_true c9
      try have c9b2 : (9223372036854775807 < t249.size + t250.size) = False := eq_false (Nat.not_lt.2 c9)
      replace H := Option.bind_eq_some_iff.mp H
      obtain ⟨t257, A100, H⟩ := H
      replace H : (if (t257.length : Int) = (wrap64 ((t251.length : Int) + (t254.length : Int))) then (if 0 ≤ (t251.length : Int) then (if (t251.length : Int) ≤ (t257.length : Int) then ((chancellaw1_same.f k (t257.take ((t251.length : Int) : Int).toNat) t251).bind fun t264 => (if t264 = true then ((chancellaw1_same.f k (t257.drop ((t251.length : Int) : Int).toNat) t254).bind fun t269 => (if t269 = true then ((text_Check.f (t249 ++ t250)).bind fun t270 => (chancellaw1_TextJoins.j0 k t249 t250 (t270 != 0))) else (chancellaw1_TextJoins.j0 k t249 t250 true))) else (chancellaw1_TextJoins.j0 k t249 t250 true))) else (none)) else (none)) else (chancellaw1_TextJoins.j0 k t249 t250 true)) = some r := H
      have A10 := Aside0.mk A100
      clear A100
      have HC11 := Aside0.mk H
      clear H
      go_enter Tryd.func6, Tryd.ntmps6
      go_upto_region 5 with (first | (go_at_call 12; (with_reducible refine (chancellaw1_known.calls k  true _ A3.out ?side1).mono ?_); (case side1 => exact Tb.below HT.out (by repeat (first | (with_reducible first | exact HB.out | apply below_alloc | apply pw_below_drewN | apply below_drew1) | exact HB.out))); rintro e w12 ⟨rfl, hb⟩; have n0_ := Aside0.mk (below_step (by repeat (first | (with_reducible first | exact HB.out | apply below_alloc | apply pw_below_drewN | apply below_drew1) | exact HB.out)) hb); clear HB; have HB := n0_; clear n0_; (try clear hb); (try clear hb2); (try clear hk); (try clear hi)) | (go_at_call 13; (with_reducible refine (chancellaw1_Of.calls k _ _ l0 t249 _ ?side1 ?side2 A5.out).mono ?_); (case side1 => repeat (first | exact (Kd.C_below HR0.out HB.out) | (with_reducible refine Kd.C_alloc ?_ _) | (with_reducible refine Kd.C_drewN ?_ _) | (with_reducible refine Kd.C_drew ?_))); (case side2 => exact HC0.out); rintro e w13 ⟨rfl, hb⟩; have n0_ := Aside0.mk (below_step (by repeat (first | (with_reducible first | exact HB.out | apply below_alloc | apply pw_below_drewN | apply below_drew1) | exact HB.out)) hb); clear HB; have HB := n0_; clear n0_; (try clear hb); (try clear hb2); (try clear hk); (try clear hi)) | (go_at_call 13; (with_reducible refine (chancellaw1_Of.calls k _ _ l1 t250 _ ?side1 ?side2 A6.out).mono ?_); (case side1 => repeat (first | exact (Kd.C_below HR1.out HB.out) | (with_reducible refine Kd.C_alloc ?_ _) | (with_reducible refine Kd.C_drewN ?_ _) | (with_reducible refine Kd.C_drew ?_))); (case side2 => exact HC1.out); rintro e w14 ⟨rfl, hb⟩; have n0_ := Aside0.mk (below_step (by repeat (first | (with_reducible first | exact HB.out | apply below_alloc | apply pw_below_drewN | apply below_drew1) | exact HB.out)) hb); clear HB; have HB := n0_; clear n0_; (try clear hb); (try clear hb2); (try clear hk); (try clear hi)) | (go_at_call 19; (with_reducible refine (text_Runes.calls t249 t251 _ A7.out).mono ?_); rintro e w15 ⟨v252, rfl, ho0, hb⟩; have n0_ := Aside0.mk (Kd.R_lower ho0 (below_size (by repeat (first | (with_reducible first | exact HB.out | apply below_alloc | apply pw_below_drewN | apply below_drew1) | exact HB.out)))); have n1_ := Aside0.mk (below_step (by repeat (first | (with_reducible first | exact HB.out | apply below_alloc | apply pw_below_drewN | apply below_drew1) | exact HB.out)) hb); clear HB; have HO253 := n0_; have HB := n1_; clear n0_ n1_; (try clear hb); (try clear hb2); (try clear hk); (try clear hi); (try clear ho0)) | (go_at_call 19; (with_reducible refine (text_Runes.calls t250 t254 _ A8.out).mono ?_); rintro e w16 ⟨v255, rfl, ho0, hb⟩; have n0_ := Aside0.mk (Kd.R_elder' (by (with_reducible repeat (first | apply Kd.R_alloc | apply Kd.R_drewN | apply Kd.R_drew)); exact HO253.out) (Kd.R_base ho0) hb); have n1_ := Aside0.mk (Kd.R_lower (Kd.R_new' ho0 (Kd.R_lt (by (with_reducible repeat (first | apply Kd.R_alloc | apply Kd.R_drewN | apply Kd.R_drew)); exact HO253.out))) (below_size (by repeat (first | (with_reducible first | exact HB.out | apply below_alloc | apply pw_below_drewN | apply below_drew1) | exact HB.out)))); have n2_ := Aside0.mk (below_step (by repeat (first | (with_reducible first | exact HB.out | apply below_alloc | apply pw_below_drewN | apply below_drew1) | exact HB.out)) hb); clear HO253; clear HB; have HO253 := n0_; have HO256 := n1_; have HB := n2_; clear n0_ n1_ n2_; (try clear hb); (try clear hb2); (try clear hk); (try clear hi); (try clear ho0)) | (go_at_call 19; (with_reducible refine (text_Runes.calls (t249 ++ t250) t257 _ A10.out).mono ?_); rintro e w17 ⟨v258, rfl, ho0, hb⟩; have n0_ := Aside0.mk (Kd.R_elder' (by (with_reducible repeat (first | apply Kd.R_alloc | apply Kd.R_drewN | apply Kd.R_drew)); exact HO253.out) (Kd.R_base ho0) hb); have n1_ := Aside0.mk (Kd.R_elder' (by (with_reducible repeat (first | apply Kd.R_alloc | apply Kd.R_drewN | apply Kd.R_drew)); exact HO256.out) (Kd.R_base ho0) hb); have n2_ := Aside0.mk (Kd.R_lower (Kd.R_new' (Kd.R_new' ho0 (Kd.R_lt (by (with_reducible repeat (first | apply Kd.R_alloc | apply Kd.R_drewN | apply Kd.R_drew)); exact HO253.out))) (Kd.R_lt (by (with_reducible repeat (first | apply Kd.R_alloc | apply Kd.R_drewN | apply Kd.R_drew)); exact HO256.out))) (below_size (by repeat (first | (with_reducible first | exact HB.out | apply below_alloc | apply pw_below_drewN | apply below_drew1) | exact HB.out)))); have n3_ := Aside0.mk (below_step (by repeat (first | (with_reducible first | exact HB.out | apply below_alloc | apply pw_below_drewN | apply below_drew1) | exact HB.out)) hb); clear HO253; clear HO256; clear HB; have HO253 := n0_; have HO256 := n1_; have HO259 := n2_; have HB := n3_; clear n0_ n1_ n2_ n3_; (try clear hb); (try clear hb2); (try clear hk); (try clear hi); (try clear ho0)))
      repeat (go_quiet (first | (go_at_call 12; (with_reducible refine (chancellaw1_known.calls k  true _ A3.out ?side1).mono ?_); (case side1 => exact Tb.below HT.out (by repeat (first | (with_reducible first | exact HB.out | apply below_alloc | apply pw_below_drewN | apply below_drew1) | exact HB.out))); rintro e w12 ⟨rfl, hb⟩; have n0_ := Aside0.mk (below_step (by repeat (first | (with_reducible first | exact HB.out | apply below_alloc | apply pw_below_drewN | apply below_drew1) | exact HB.out)) hb); clear HB; have HB := n0_; clear n0_; (try clear hb); (try clear hb2); (try clear hk); (try clear hi)) | (go_at_call 13; (with_reducible refine (chancellaw1_Of.calls k _ _ l0 t249 _ ?side1 ?side2 A5.out).mono ?_); (case side1 => repeat (first | exact (Kd.C_below HR0.out HB.out) | (with_reducible refine Kd.C_alloc ?_ _) | (with_reducible refine Kd.C_drewN ?_ _) | (with_reducible refine Kd.C_drew ?_))); (case side2 => exact HC0.out); rintro e w13 ⟨rfl, hb⟩; have n0_ := Aside0.mk (below_step (by repeat (first | (with_reducible first | exact HB.out | apply below_alloc | apply pw_below_drewN | apply below_drew1) | exact HB.out)) hb); clear HB; have HB := n0_; clear n0_; (try clear hb); (try clear hb2); (try clear hk); (try clear hi)) | (go_at_call 13; (with_reducible refine (chancellaw1_Of.calls k _ _ l1 t250 _ ?side1 ?side2 A6.out).mono ?_); (case side1 => repeat (first | exact (Kd.C_below HR1.out HB.out) | (with_reducible refine Kd.C_alloc ?_ _) | (with_reducible refine Kd.C_drewN ?_ _) | (with_reducible refine Kd.C_drew ?_))); (case side2 => exact HC1.out); rintro e w14 ⟨rfl, hb⟩; have n0_ := Aside0.mk (below_step (by repeat (first | (with_reducible first | exact HB.out | apply below_alloc | apply pw_below_drewN | apply below_drew1) | exact HB.out)) hb); clear HB; have HB := n0_; clear n0_; (try clear hb); (try clear hb2); (try clear hk); (try clear hi)) | (go_at_call 19; (with_reducible refine (text_Runes.calls t249 t251 _ A7.out).mono ?_); rintro e w15 ⟨v252, rfl, ho0, hb⟩; have n0_ := Aside0.mk (Kd.R_lower ho0 (below_size (by repeat (first | (with_reducible first | exact HB.out | apply below_alloc | apply pw_below_drewN | apply below_drew1) | exact HB.out)))); have n1_ := Aside0.mk (below_step (by repeat (first | (with_reducible first | exact HB.out | apply below_alloc | apply pw_below_drewN | apply below_drew1) | exact HB.out)) hb); clear HB; have HO253 := n0_; have HB := n1_; clear n0_ n1_; (try clear hb); (try clear hb2); (try clear hk); (try clear hi); (try clear ho0)) | (go_at_call 19; (with_reducible refine (text_Runes.calls t250 t254 _ A8.out).mono ?_); rintro e w16 ⟨v255, rfl, ho0, hb⟩; have n0_ := Aside0.mk (Kd.R_elder' (by (with_reducible repeat (first | apply Kd.R_alloc | apply Kd.R_drewN | apply Kd.R_drew)); exact HO253.out) (Kd.R_base ho0) hb); have n1_ := Aside0.mk (Kd.R_lower (Kd.R_new' ho0 (Kd.R_lt (by (with_reducible repeat (first | apply Kd.R_alloc | apply Kd.R_drewN | apply Kd.R_drew)); exact HO253.out))) (below_size (by repeat (first | (with_reducible first | exact HB.out | apply below_alloc | apply pw_below_drewN | apply below_drew1) | exact HB.out)))); have n2_ := Aside0.mk (below_step (by repeat (first | (with_reducible first | exact HB.out | apply below_alloc | apply pw_below_drewN | apply below_drew1) | exact HB.out)) hb); clear HO253; clear HB; have HO253 := n0_; have HO256 := n1_; have HB := n2_; clear n0_ n1_ n2_; (try clear hb); (try clear hb2); (try clear hk); (try clear hi); (try clear ho0)) | (go_at_call 19; (with_reducible refine (text_Runes.calls (t249 ++ t250) t257 _ A10.out).mono ?_); rintro e w17 ⟨v258, rfl, ho0, hb⟩; have n0_ := Aside0.mk (Kd.R_elder' (by (with_reducible repeat (first | apply Kd.R_alloc | apply Kd.R_drewN | apply Kd.R_drew)); exact HO253.out) (Kd.R_base ho0) hb); have n1_ := Aside0.mk (Kd.R_elder' (by (with_reducible repeat (first | apply Kd.R_alloc | apply Kd.R_drewN | apply Kd.R_drew)); exact HO256.out) (Kd.R_base ho0) hb); have n2_ := Aside0.mk (Kd.R_lower (Kd.R_new' (Kd.R_new' ho0 (Kd.R_lt (by (with_reducible repeat (first | apply Kd.R_alloc | apply Kd.R_drewN | apply Kd.R_drew)); exact HO253.out))) (Kd.R_lt (by (with_reducible repeat (first | apply Kd.R_alloc | apply Kd.R_drewN | apply Kd.R_drew)); exact HO256.out))) (below_size (by repeat (first | (with_reducible first | exact HB.out | apply below_alloc | apply pw_below_drewN | apply below_drew1) | exact HB.out)))); have n3_ := Aside0.mk (below_step (by repeat (first | (with_reducible first | exact HB.out | apply below_alloc | apply pw_below_drewN | apply below_drew1) | exact HB.out)) hb); clear HO253; clear HO256; clear HB; have HO253 := n0_; have HO256 := n1_; have HO259 := n2_; have HB := n3_; clear n0_ n1_ n2_ n3_; (try clear hb); (try clear hb2); (try clear hk); (try clear hi); (try clear ho0))); go_upto_region 5 with (first | (go_at_call 12; (with_reducible refine (chancellaw1_known.calls k  true _ A3.out ?side1).mono ?_); (case side1 => exact Tb.below HT.out (by repeat (first | (with_reducible first | exact HB.out | apply below_alloc | apply pw_below_drewN | apply below_drew1) | exact HB.out))); rintro e w12 ⟨rfl, hb⟩; have n0_ := Aside0.mk (below_step (by repeat (first | (with_reducible first | exact HB.out | apply below_alloc | apply pw_below_drewN | apply below_drew1) | exact HB.out)) hb); clear HB; have HB := n0_; clear n0_; (try clear hb); (try clear hb2); (try clear hk); (try clear hi)) | (go_at_call 13; (with_reducible refine (chancellaw1_Of.calls k _ _ l0 t249 _ ?side1 ?side2 A5.out).mono ?_); (case side1 => repeat (first | exact (Kd.C_below HR0.out HB.out) | (with_reducible refine Kd.C_alloc ?_ _) | (with_reducible refine Kd.C_drewN ?_ _) | (with_reducible refine Kd.C_drew ?_))); (case side2 => exact HC0.out); rintro e w13 ⟨rfl, hb⟩; have n0_ := Aside0.mk (below_step (by repeat (first | (with_reducible first | exact HB.out | apply below_alloc | apply pw_below_drewN | apply below_drew1) | exact HB.out)) hb); clear HB; have HB := n0_; clear n0_; (try clear hb); (try clear hb2); (try clear hk); (try clear hi)) | (go_at_call 13; (with_reducible refine (chancellaw1_Of.calls k _ _ l1 t250 _ ?side1 ?side2 A6.out).mono ?_); (case side1 => repeat (first | exact (Kd.C_below HR1.out HB.out) | (with_reducible refine Kd.C_alloc ?_ _) | (with_reducible refine Kd.C_drewN ?_ _) | (with_reducible refine Kd.C_drew ?_))); (case side2 => exact HC1.out); rintro e w14 ⟨rfl, hb⟩; have n0_ := Aside0.mk (below_step (by repeat (first | (with_reducible first | exact HB.out | apply below_alloc | apply pw_below_drewN | apply below_drew1) | exact HB.out)) hb); clear HB; have HB := n0_; clear n0_; (try clear hb); (try clear hb2); (try clear hk); (try clear hi)) | (go_at_call 19; (with_reducible refine (text_Runes.calls t249 t251 _ A7.out).mono ?_); rintro e w15 ⟨v252, rfl, ho0, hb⟩; have n0_ := Aside0.mk (Kd.R_lower ho0 (below_size (by repeat (first | (with_reducible first | exact HB.out | apply below_alloc | apply pw_below_drewN | apply below_drew1) | exact HB.out)))); have n1_ := Aside0.mk (below_step (by repeat (first | (with_reducible first | exact HB.out | apply below_alloc | apply pw_below_drewN | apply below_drew1) | exact HB.out)) hb); clear HB; have HO253 := n0_; have HB := n1_; clear n0_ n1_; (try clear hb); (try clear hb2); (try clear hk); (try clear hi); (try clear ho0)) | (go_at_call 19; (with_reducible refine (text_Runes.calls t250 t254 _ A8.out).mono ?_); rintro e w16 ⟨v255, rfl, ho0, hb⟩; have n0_ := Aside0.mk (Kd.R_elder' (by (with_reducible repeat (first | apply Kd.R_alloc | apply Kd.R_drewN | apply Kd.R_drew)); exact HO253.out) (Kd.R_base ho0) hb); have n1_ := Aside0.mk (Kd.R_lower (Kd.R_new' ho0 (Kd.R_lt (by (with_reducible repeat (first | apply Kd.R_alloc | apply Kd.R_drewN | apply Kd.R_drew)); exact HO253.out))) (below_size (by repeat (first | (with_reducible first | exact HB.out | apply below_alloc | apply pw_below_drewN | apply below_drew1) | exact HB.out)))); have n2_ := Aside0.mk (below_step (by repeat (first | (with_reducible first | exact HB.out | apply below_alloc | apply pw_below_drewN | apply below_drew1) | exact HB.out)) hb); clear HO253; clear HB; have HO253 := n0_; have HO256 := n1_; have HB := n2_; clear n0_ n1_ n2_; (try clear hb); (try clear hb2); (try clear hk); (try clear hi); (try clear ho0)) | (go_at_call 19; (with_reducible refine (text_Runes.calls (t249 ++ t250) t257 _ A10.out).mono ?_); rintro e w17 ⟨v258, rfl, ho0, hb⟩; have n0_ := Aside0.mk (Kd.R_elder' (by (with_reducible repeat (first | apply Kd.R_alloc | apply Kd.R_drewN | apply Kd.R_drew)); exact HO253.out) (Kd.R_base ho0) hb); have n1_ := Aside0.mk (Kd.R_elder' (by (with_reducible repeat (first | apply Kd.R_alloc | apply Kd.R_drewN | apply Kd.R_drew)); exact HO256.out) (Kd.R_base ho0) hb); have n2_ := Aside0.mk (Kd.R_lower (Kd.R_new' (Kd.R_new' ho0 (Kd.R_lt (by (with_reducible repeat (first | apply Kd.R_alloc | apply Kd.R_drewN | apply Kd.R_drew)); exact HO253.out))) (Kd.R_lt (by (with_reducible repeat (first | apply Kd.R_alloc | apply Kd.R_drewN | apply Kd.R_drew)); exact HO256.out))) (below_size (by repeat (first | (with_reducible first | exact HB.out | apply below_alloc | apply pw_below_drewN | apply below_drew1) | exact HB.out)))); have n3_ := Aside0.mk (below_step (by repeat (first | (with_reducible first | exact HB.out | apply below_alloc | apply pw_below_drewN | apply below_drew1) | exact HB.out)) hb); clear HO253; clear HO256; clear HB; have HO253 := n0_; have HO256 := n1_; have HO259 := n2_; have HB := n3_; clear n0_ n1_ n2_ n3_; (try clear hb); (try clear hb2); (try clear hk); (try clear hi); (try clear ho0))))
      (try simp only [Act.put, List.setIfInBounds_toArray, List.set_cons_zero, List.set_cons_succ])
      go_cut [59] (fun v59 wc => ∃ (kq : Nat) (x59_10 : Bool), v59 = .bool x59_10 ∧ Aside0 (chancellaw1_TextJoins.j0 kq t249 t250 x59_10 = some r) ∧ Aside0 (kq ≤ k) ∧ Aside0 (Below w.heap.size w wc))
      case first =>
        have H := HC11.out
        clear HC11
        by_cases c18 : (t257.length : Int) = (wrap64 ((t251.length : Int) + (t254.length : Int)))
        · rw [if_pos c18] at H
          have c18b0 : ((t257.length : Int) == (wrap64 ((t251.length : Int) + (t254.length : Int)))) = true := beq_iff_eq.mpr c18
          have c18b1 : ((t257.length : Int) != (wrap64 ((t251.length : Int) + (t254.length : Int)))) = false := bne_eq_false_iff_eq.mpr c18
          clear c18
          (first | rw [c18b0] | (simp only [i64_w, i32_w]; rw [c18b0]) | skip)
          by_cases c19 : 0 ≤ (t251.length : Int)
          · rw [if_pos c19] at H
            have c19b0 := eq_true c19
            have c19b1 : decide (0 ≤ (t251.length : Int)) = true := decide_eq_true c19
            clear c19
            by_cases c20 : (t251.length : Int) ≤ (t257.length : Int)
            · rw [if_pos c20] at H
              have c20b0 := eq_true c20
              have c20b1 : decide ((t251.length : Int) ≤ (t257.length : Int)) = true := decide_eq_true c20
              clear c20
              obtain ⟨y260, hy260⟩ : ∃ y_ : List Int, y_ = (t257.take ((t251.length : Int) : Int).toNat) := ⟨_, rfl⟩
              replace H : ((chancellaw1_same.f k y260 t251).bind fun t264 => (if t264 = true then ((chancellaw1_same.f k (t257.drop ((t251.length : Int) : Int).toNat) t254).bind fun t269 => (if t269 = true then ((text_Check.f (t249 ++ t250)).bind fun t270 => (chancellaw1_TextJoins.j0 k t249 t250 (t270 != 0))) else (chancellaw1_TextJoins.j0 k t249 t250 true))) else (chancellaw1_TextJoins.j0 k t249 t250 true))) = some r := by first | (rw [hy260]; with_reducible exact H) | (have H2_ := (Option.bind_some _ _).symm.trans H; rw [hy260]; with_reducible exact H2_) | (have H2_ := (Option.bind_some _ _).symm.trans H; with_reducible exact H2_) | with_reducible exact H | (rw [hy260]; exact H) | exact H
              have Ny260 := Aside0.mk hy260
              clear hy260
              replace H := Option.bind_eq_some_iff.mp H
              obtain ⟨t264, A210, H⟩ := H
              replace H : (if t264 = true then ((chancellaw1_same.f k (t257.drop ((t251.length : Int) : Int).toNat) t254).bind fun t269 => (if t269 = true then ((text_Check.f (t249 ++ t250)).bind fun t270 => (chancellaw1_TextJoins.j0 k t249 t250 (t270 != 0))) else (chancellaw1_TextJoins.j0 k t249 t250 true))) else (chancellaw1_TextJoins.j0 k t249 t250 true)) = some r := H
              have A21 := Aside0.mk A210
              clear A210
              by_cases c22 : t264 = true
              · subst c22
                have H1 : ((chancellaw1_same.f k (t257.drop ((t251.length : Int) : Int).toNat) t254).bind fun t269 => (if t269 = true then ((text_Check.f (t249 ++ t250)).bind fun t270 => (chancellaw1_TextJoins.j0 k t249 t250 (t270 != 0))) else (chancellaw1_TextJoins.j0 k t249 t250 true))) = some r := by rw [if_pos rfl] at H; exact H
                clear H
                have H := H1
                clear H1
                have c23b0 := eq_true (of_decide_eq_true (by first | (with_reducible assumption) | assumption) : 0 ≤ (t251.length : Int))
                have c24b0 := eq_true (of_decide_eq_true (by first | (with_reducible assumption) | assumption) : (t251.length : Int) ≤ (t257.length : Int))
                obtain ⟨y265, hy265⟩ : ∃ y_ : List Int, y_ = (t257.drop ((t251.length : Int) : Int).toNat) := ⟨_, rfl⟩
                replace H : ((chancellaw1_same.f k y265 t254).bind fun t269 => (if t269 = true then ((text_Check.f (t249 ++ t250)).bind fun t270 => (chancellaw1_TextJoins.j0 k t249 t250 (t270 != 0))) else (chancellaw1_TextJoins.j0 k t249 t250 true))) = some r := by first | (rw [hy265]; with_reducible exact H) | (have H2_ := (Option.bind_some _ _).symm.trans H; rw [hy265]; with_reducible exact H2_) | (have H2_ := (Option.bind_some _ _).symm.trans H; with_reducible exact H2_) | with_reducible exact H | (rw [hy265]; exact H) | exact H
                have Ny265 := Aside0.mk hy265
                clear hy265
                replace H := Option.bind_eq_some_iff.mp H
                obtain ⟨t269, A250, H⟩ := H
                replace H : (if t269 = true then ((text_Check.f (t249 ++ t250)).bind fun t270 => (chancellaw1_TextJoins.j0 k t249 t250 (t270 != 0))) else (chancellaw1_TextJoins.j0 k t249 t250 true)) = some r := H
                have A25 := Aside0.mk A250
                clear A250
                by_cases c26 : t269 = true
                · subst c26
                  have H1 : ((text_Check.f (t249 ++ t250)).bind fun t270 => (chancellaw1_TextJoins.j0 k t249 t250 (t270 != 0))) = some r := by rw [if_pos rfl] at H; exact H
                  clear H
                  have H := H1
                  clear H1
                  replace H := Option.bind_eq_some_iff.mp H
                  obtain ⟨t270, A270, H⟩ := H
                  replace H : (chancellaw1_TextJoins.j0 k t249 t250 (t270 != 0)) = some r := H
                  have A27 := Aside0.mk A270
                  clear A270
                  have H' := Aside0.mk H
                  clear H
                  obtain ⟨Ao28, co28, eo28⟩ := Kd.R_slice HO259.out
                  subst eo28
                  obtain ⟨Ao29, co29, eo29⟩ := Kd.R_slice HO253.out
                  subst eo29
                  obtain ⟨Ao30, co30, eo30⟩ := Kd.R_slice HO256.out
                  subst eo30
                  have q31 : ((t251.length : Int) : Int) ≤ ((t257.length : Int) : Int) := of_decide_eq_true (by first | (with_reducible assumption) | assumption)
                  obtain ⟨i031, hi031, _, hsz31, _⟩ := info_parts info21
                  have hroom31 : t257.length ≤ co28 := (Kd.R_reads' HO259.out).2.1
                  have hC31 : Kd.C (Kd.int .i32) _ Ao28 t257.length t257 := (Kd.R_reads' HO259.out).2.2
                  have hcut31 := cut_to (P := Tryd.prog) 27 21 .i64 Tryd.underlying27 hi031 Ao28 t257.length co28 (t251.length : Int) (of_decide_eq_true (by first | (with_reducible assumption) | assumption)) q31 hroom31
                  have hr31 := Kd.C_take (m := ((t251.length : Int) : Int).toNat) hC31 (by omega)
                  have hy31 : y260.length = ((t251.length : Int) : Int).toNat := (by rw [Ny260.out, List.length_take]; omega)
                  rw [← Ny260.out] at hr31
                  rw [← hy31] at hcut31
                  have HR263 := Aside0.mk hr31
                  have HC263 := Aside0.mk (show y260.length ≤ co28 from by omega)
                  clear hr31 hC31 hroom31 hi031 hsz31
                  have KY31 := Aside0.mk hy31
                  clear hy31
                  have KL31 := Aside0.mk (show ((t251.length : Int) : Int).toNat ≤ t257.length from by omega)
                  replace q31 := eq_true q31
                  go_wp2_with (first | (go_at_call 20; (with_reducible refine (chancellaw1_same.calls k _ _ y260 _ _ t251 true _ ?side1 ?side2 ?side3 ?side4 A21.out).mono ?_); (case side1 => repeat (first | exact (by repeat (first | (with_reducible exact HR263.out) | (with_reducible refine Kd.C_alloc ?_ _) | (with_reducible refine Kd.C_drewN ?_ _) | (with_reducible refine Kd.C_drew ?_) | exact HR263.out)) | (with_reducible refine Kd.C_alloc ?_ _) | (with_reducible refine Kd.C_drewN ?_ _) | (with_reducible refine Kd.C_drew ?_))); (case side2 => exact HC263.out); (case side3 => repeat (first | exact (Kd.R_reads' HO253.out).2.2 | (with_reducible refine Kd.C_alloc ?_ _) | (with_reducible refine Kd.C_drewN ?_ _) | (with_reducible refine Kd.C_drew ?_))); (case side4 => exact (Kd.R_reads' HO253.out).2.1); rintro e w' ⟨rfl, ⟨nd, rfl⟩⟩; (try first | exact ⟨rfl, _, World.drewN_drewN _ _ _⟩ | exact ⟨rfl, _, Eq.trans (World.drewN_drewN _ _ _) (congrArg (World.drewN _) (Nat.add_assoc _ _ _))⟩); have q32 : ((t251.length : Int) : Int) ≤ ((t257.length : Int) : Int) := of_decide_eq_true (by first | (with_reducible assumption) | assumption); obtain ⟨i032, hi032, _, hsz32, _⟩ := info_parts info21; have hroom32 : t257.length ≤ co28 := (Kd.R_reads' HO259.out).2.1; have hC32 : Kd.C (Kd.int .i32) _ Ao28 t257.length t257 := (Kd.R_reads' HO259.out).2.2; have q032 : (0 : Int) ≤ ((t251.length : Int) : Int) := of_decide_eq_true (by first | (with_reducible assumption) | assumption); have hcut32 := cut_from (P := Tryd.prog) 27 21 .i64 Tryd.underlying27 hi032 1 hsz32 Ao28 t257.length co28 (t251.length : Int) q032 q32; have hr32 := Kd.C_drop (m := ((t251.length : Int) : Int).toNat) (c := co28) hC32 (by omega) hroom32; obtain ⟨A32, hA32⟩ : ∃ A1, A1 = (if co28 = ((t251.length : Int) : Int).toNat then Ao28 else (Ao28 : Option Addr).map (·.add (((t251.length : Int) : Int).toNat * 1))) := ⟨_, rfl⟩; obtain ⟨c32, hc32⟩ : ∃ c1, c1 = co28 - ((t251.length : Int) : Int).toNat := ⟨_, rfl⟩; have hy32 : y265.length = t257.length - ((t251.length : Int) : Int).toNat := (by rw [Ny265.out, List.length_drop] <;> omega); rw [show (t257).drop ((t251.length : Int) : Int).toNat = y265 from Ny265.out.symm] at hr32; replace hr32 : Kd.C (Kd.int .i32) _ A32 y265.length y265 := (by rw [hA32]; exact hr32); rw [← hy32, ← hA32, ← hc32] at hcut32; have HR268 := Aside0.mk hr32; have HC268 := Aside0.mk (show y265.length ≤ c32 from by rw [hy32, hc32]; exact Nat.sub_le_sub_right hroom32 _); clear hr32 hC32 hroom32 hi032 hsz32 hc32; have KY32 := Aside0.mk hy32; have KA32 := Aside0.mk hA32; clear hy32 hA32; have KL32 := Aside0.mk (show ((t251.length : Int) : Int).toNat ≤ t257.length from by omega); replace q32 := eq_true q32) | (go_at_call 20; (with_reducible refine (chancellaw1_same.calls k _ _ y265 _ _ t254 true _ ?side1 ?side2 ?side3 ?side4 A25.out).mono ?_); (case side1 => repeat (first | exact (by repeat (first | (with_reducible exact HR268.out) | (with_reducible refine Kd.C_alloc ?_ _) | (with_reducible refine Kd.C_drewN ?_ _) | (with_reducible refine Kd.C_drew ?_) | exact HR268.out)) | (with_reducible refine Kd.C_alloc ?_ _) | (with_reducible refine Kd.C_drewN ?_ _) | (with_reducible refine Kd.C_drew ?_))); (case side2 => exact HC268.out); (case side3 => repeat (first | exact (Kd.R_reads' HO256.out).2.2 | (with_reducible refine Kd.C_alloc ?_ _) | (with_reducible refine Kd.C_drewN ?_ _) | (with_reducible refine Kd.C_drew ?_))); (case side4 => exact (Kd.R_reads' HO256.out).2.1); rintro e w' ⟨rfl, ⟨nd, rfl⟩⟩; (try first | exact ⟨rfl, _, World.drewN_drewN _ _ _⟩ | exact ⟨rfl, _, Eq.trans (World.drewN_drewN _ _ _) (congrArg (World.drewN _) (Nat.add_assoc _ _ _))⟩)) | (go_at_call 21; (with_reducible refine (text_Check.calls (t249 ++ t250) t270 _ A27.out ?side1).mono ?_); (case side1 => exact Tb.below HT.out (by repeat (first | (with_reducible first | exact HB.out | apply below_alloc | apply pw_below_drewN | apply below_drew1) | exact HB.out))); rintro e w33 ⟨rfl, hb⟩; have n0_ := Aside0.mk (Kd.R_below (by (with_reducible repeat (first | apply Kd.R_alloc | apply Kd.R_drewN | apply Kd.R_drew)); exact HO253.out) hb); have n1_ := Aside0.mk (Kd.R_below (by (with_reducible repeat (first | apply Kd.R_alloc | apply Kd.R_drewN | apply Kd.R_drew)); exact HO256.out) hb); have n2_ := Aside0.mk (Kd.R_below (by (with_reducible repeat (first | apply Kd.R_alloc | apply Kd.R_drewN | apply Kd.R_drew)); exact HO259.out) hb); have n3_ := Aside0.mk (Kd.C_below (by repeat (first | (with_reducible exact HR263.out) | (with_reducible refine Kd.C_alloc ?_ _) | (with_reducible refine Kd.C_drewN ?_ _) | (with_reducible refine Kd.C_drew ?_) | exact HR263.out)) hb); have n4_ := Aside0.mk (Kd.C_below (by repeat (first | (with_reducible exact HR268.out) | (with_reducible refine Kd.C_alloc ?_ _) | (with_reducible refine Kd.C_drewN ?_ _) | (with_reducible refine Kd.C_drew ?_) | exact HR268.out)) hb); have n5_ := Aside0.mk (below_step (by repeat (first | (with_reducible first | exact HB.out | apply below_alloc | apply pw_below_drewN | apply below_drew1) | exact HB.out)) hb); clear HO253; clear HO256; clear HO259; clear HR263; clear HR268; clear HB; have HO253 := n0_; have HO256 := n1_; have HO259 := n2_; have HR263 := n3_; have HR268 := n4_; have HB := n5_; clear n0_ n1_ n2_ n3_ n4_ n5_; (try clear hb); (try clear hb2); (try clear hk); (try clear hi)))
                  repeat (go_quiet (first | (go_at_call 20; (with_reducible refine (chancellaw1_same.calls k _ _ y260 _ _ t251 true _ ?side1 ?side2 ?side3 ?side4 A21.out).mono ?_); (case side1 => repeat (first | exact (by repeat (first | (with_reducible exact HR263.out) | (with_reducible refine Kd.C_alloc ?_ _) | (with_reducible refine Kd.C_drewN ?_ _) | (with_reducible refine Kd.C_drew ?_) | exact HR263.out)) | (with_reducible refine Kd.C_alloc ?_ _) | (with_reducible refine Kd.C_drewN ?_ _) | (with_reducible refine Kd.C_drew ?_))); (case side2 => exact HC263.out); (case side3 => repeat (first | exact (Kd.R_reads' HO253.out).2.2 | (with_reducible refine Kd.C_alloc ?_ _) | (with_reducible refine Kd.C_drewN ?_ _) | (with_reducible refine Kd.C_drew ?_))); (case side4 => exact (Kd.R_reads' HO253.out).2.1); rintro e w' ⟨rfl, ⟨nd, rfl⟩⟩; (try first | exact ⟨rfl, _, World.drewN_drewN _ _ _⟩ | exact ⟨rfl, _, Eq.trans (World.drewN_drewN _ _ _) (congrArg (World.drewN _) (Nat.add_assoc _ _ _))⟩); have q32 : ((t251.length : Int) : Int) ≤ ((t257.length : Int) : Int) := of_decide_eq_true (by first | (with_reducible assumption) | assumption); obtain ⟨i032, hi032, _, hsz32, _⟩ := info_parts info21; have hroom32 : t257.length ≤ co28 := (Kd.R_reads' HO259.out).2.1; have hC32 : Kd.C (Kd.int .i32) _ Ao28 t257.length t257 := (Kd.R_reads' HO259.out).2.2; have q032 : (0 : Int) ≤ ((t251.length : Int) : Int) := of_decide_eq_true (by first | (with_reducible assumption) | assumption); have hcut32 := cut_from (P := Tryd.prog) 27 21 .i64 Tryd.underlying27 hi032 1 hsz32 Ao28 t257.length co28 (t251.length : Int) q032 q32; have hr32 := Kd.C_drop (m := ((t251.length : Int) : Int).toNat) (c := co28) hC32 (by omega) hroom32; obtain ⟨A32, hA32⟩ : ∃ A1, A1 = (if co28 = ((t251.length : Int) : Int).toNat then Ao28 else (Ao28 : Option Addr).map (·.add (((t251.length : Int) : Int).toNat * 1))) := ⟨_, rfl⟩; obtain ⟨c32, hc32⟩ : ∃ c1, c1 = co28 - ((t251.length : Int) : Int).toNat := ⟨_, rfl⟩; have hy32 : y265.length = t257.length - ((t251.length : Int) : Int).toNat := (by rw [Ny265.out, List.length_drop] <;> omega); rw [show (t257).drop ((t251.length : Int) : Int).toNat = y265 from Ny265.out.symm] at hr32; replace hr32 : Kd.C (Kd.int .i32) _ A32 y265.length y265 := (by rw [hA32]; exact hr32); rw [← hy32, ← hA32, ← hc32] at hcut32; have HR268 := Aside0.mk hr32; have HC268 := Aside0.mk (show y265.length ≤ c32 from by rw [hy32, hc32]; exact Nat.sub_le_sub_right hroom32 _); clear hr32 hC32 hroom32 hi032 hsz32 hc32; have KY32 := Aside0.mk hy32; have KA32 := Aside0.mk hA32; clear hy32 hA32; have KL32 := Aside0.mk (show ((t251.length : Int) : Int).toNat ≤ t257.length from by omega); replace q32 := eq_true q32) | (go_at_call 20; (with_reducible refine (chancellaw1_same.calls k _ _ y265 _ _ t254 true _ ?side1 ?side2 ?side3 ?side4 A25.out).mono ?_); (case side1 => repeat (first | exact (by repeat (first | (with_reducible exact HR268.out) | (with_reducible refine Kd.C_alloc ?_ _) | (with_reducible refine Kd.C_drewN ?_ _) | (with_reducible refine Kd.C_drew ?_) | exact HR268.out)) | (with_reducible refine Kd.C_alloc ?_ _) | (with_reducible refine Kd.C_drewN ?_ _) | (with_reducible refine Kd.C_drew ?_))); (case side2 => exact HC268.out); (case side3 => repeat (first | exact (Kd.R_reads' HO256.out).2.2 | (with_reducible refine Kd.C_alloc ?_ _) | (with_reducible refine Kd.C_drewN ?_ _) | (with_reducible refine Kd.C_drew ?_))); (case side4 => exact (Kd.R_reads' HO256.out).2.1); rintro e w' ⟨rfl, ⟨nd, rfl⟩⟩; (try first | exact ⟨rfl, _, World.drewN_drewN _ _ _⟩ | exact ⟨rfl, _, Eq.trans (World.drewN_drewN _ _ _) (congrArg (World.drewN _) (Nat.add_assoc _ _ _))⟩)) | (go_at_call 21; (with_reducible refine (text_Check.calls (t249 ++ t250) t270 _ A27.out ?side1).mono ?_); (case side1 => exact Tb.below HT.out (by repeat (first | (with_reducible first | exact HB.out | apply below_alloc | apply pw_below_drewN | apply below_drew1) | exact HB.out))); rintro e w33 ⟨rfl, hb⟩; have n0_ := Aside0.mk (Kd.R_below (by (with_reducible repeat (first | apply Kd.R_alloc | apply Kd.R_drewN | apply Kd.R_drew)); exact HO253.out) hb); have n1_ := Aside0.mk (Kd.R_below (by (with_reducible repeat (first | apply Kd.R_alloc | apply Kd.R_drewN | apply Kd.R_drew)); exact HO256.out) hb); have n2_ := Aside0.mk (Kd.R_below (by (with_reducible repeat (first | apply Kd.R_alloc | apply Kd.R_drewN | apply Kd.R_drew)); exact HO259.out) hb); have n3_ := Aside0.mk (Kd.C_below (by repeat (first | (with_reducible exact HR263.out) | (with_reducible refine Kd.C_alloc ?_ _) | (with_reducible refine Kd.C_drewN ?_ _) | (with_reducible refine Kd.C_drew ?_) | exact HR263.out)) hb); have n4_ := Aside0.mk (Kd.C_below (by repeat (first | (with_reducible exact HR268.out) | (with_reducible refine Kd.C_alloc ?_ _) | (with_reducible refine Kd.C_drewN ?_ _) | (with_reducible refine Kd.C_drew ?_) | exact HR268.out)) hb); have n5_ := Aside0.mk (below_step (by repeat (first | (with_reducible first | exact HB.out | apply below_alloc | apply pw_below_drewN | apply below_drew1) | exact HB.out)) hb); clear HO253; clear HO256; clear HO259; clear HR263; clear HR268; clear HB; have HO253 := n0_; have HO256 := n1_; have HO259 := n2_; have HR263 := n3_; have HR268 := n4_; have HB := n5_; clear n0_ n1_ n2_ n3_ n4_ n5_; (try clear hb); (try clear hb2); (try clear hk); (try clear hi))); try go_wp2_with (first | (go_at_call 20; (with_reducible refine (chancellaw1_same.calls k _ _ y260 _ _ t251 true _ ?side1 ?side2 ?side3 ?side4 A21.out).mono ?_); (case side1 => repeat (first | exact (by repeat (first | (with_reducible exact HR263.out) | (with_reducible refine Kd.C_alloc ?_ _) | (with_reducible refine Kd.C_drewN ?_ _) | (with_reducible refine Kd.C_drew ?_) | exact HR263.out)) | (with_reducible refine Kd.C_alloc ?_ _) | (with_reducible refine Kd.C_drewN ?_ _) | (with_reducible refine Kd.C_drew ?_))); (case side2 => exact HC263.out); (case side3 => repeat (first | exact (Kd.R_reads' HO253.out).2.2 | (with_reducible refine Kd.C_alloc ?_ _) | (with_reducible refine Kd.C_drewN ?_ _) | (with_reducible refine Kd.C_drew ?_))); (case side4 => exact (Kd.R_reads' HO253.out).2.1); rintro e w' ⟨rfl, ⟨nd, rfl⟩⟩; (try first | exact ⟨rfl, _, World.drewN_drewN _ _ _⟩ | exact ⟨rfl, _, Eq.trans (World.drewN_drewN _ _ _) (congrArg (World.drewN _) (Nat.add_assoc _ _ _))⟩); have q32 : ((t251.length : Int) : Int) ≤ ((t257.length : Int) : Int) := of_decide_eq_true (by first | (with_reducible assumption) | assumption); obtain ⟨i032, hi032, _, hsz32, _⟩ := info_parts info21; have hroom32 : t257.length ≤ co28 := (Kd.R_reads' HO259.out).2.1; have hC32 : Kd.C (Kd.int .i32) _ Ao28 t257.length t257 := (Kd.R_reads' HO259.out).2.2; have q032 : (0 : Int) ≤ ((t251.length : Int) : Int) := of_decide_eq_true (by first | (with_reducible assumption) | assumption); have hcut32 := cut_from (P := Tryd.prog) 27 21 .i64 Tryd.underlying27 hi032 1 hsz32 Ao28 t257.length co28 (t251.length : Int) q032 q32; have hr32 := Kd.C_drop (m := ((t251.length : Int) : Int).toNat) (c := co28) hC32 (by omega) hroom32; obtain ⟨A32, hA32⟩ : ∃ A1, A1 = (if co28 = ((t251.length : Int) : Int).toNat then Ao28 else (Ao28 : Option Addr).map (·.add (((t251.length : Int) : Int).toNat * 1))) := ⟨_, rfl⟩; obtain ⟨c32, hc32⟩ : ∃ c1, c1 = co28 - ((t251.length : Int) : Int).toNat := ⟨_, rfl⟩; have hy32 : y265.length = t257.length - ((t251.length : Int) : Int).toNat := (by rw [Ny265.out, List.length_drop] <;> omega); rw [show (t257).drop ((t251.length : Int) : Int).toNat = y265 from Ny265.out.symm] at hr32; replace hr32 : Kd.C (Kd.int .i32) _ A32 y265.length y265 := (by rw [hA32]; exact hr32); rw [← hy32, ← hA32, ← hc32] at hcut32; have HR268 := Aside0.mk hr32; have HC268 := Aside0.mk (show y265.length ≤ c32 from by rw [hy32, hc32]; exact Nat.sub_le_sub_right hroom32 _); clear hr32 hC32 hroom32 hi032 hsz32 hc32; have KY32 := Aside0.mk hy32; have KA32 := Aside0.mk hA32; clear hy32 hA32; have KL32 := Aside0.mk (show ((t251.length : Int) : Int).toNat ≤ t257.length from by omega); replace q32 := eq_true q32) | (go_at_call 20; (with_reducible refine (chancellaw1_same.calls k _ _ y265 _ _ t254 true _ ?side1 ?side2 ?side3 ?side4 A25.out).mono ?_); (case side1 => repeat (first | exact (by repeat (first | (with_reducible exact HR268.out) | (with_reducible refine Kd.C_alloc ?_ _) | (with_reducible refine Kd.C_drewN ?_ _) | (with_reducible refine Kd.C_drew ?_) | exact HR268.out)) | (with_reducible refine Kd.C_alloc ?_ _) | (with_reducible refine Kd.C_drewN ?_ _) | (with_reducible refine Kd.C_drew ?_))); (case side2 => exact HC268.out); (case side3 => repeat (first | exact (Kd.R_reads' HO256.out).2.2 | (with_reducible refine Kd.C_alloc ?_ _) | (with_reducible refine Kd.C_drewN ?_ _) | (with_reducible refine Kd.C_drew ?_))); (case side4 => exact (Kd.R_reads' HO256.out).2.1); rintro e w' ⟨rfl, ⟨nd, rfl⟩⟩; (try first | exact ⟨rfl, _, World.drewN_drewN _ _ _⟩ | exact ⟨rfl, _, Eq.trans (World.drewN_drewN _ _ _) (congrArg (World.drewN _) (Nat.add_assoc _ _ _))⟩)) | (go_at_call 21; (with_reducible refine (text_Check.calls (t249 ++ t250) t270 _ A27.out ?side1).mono ?_); (case side1 => exact Tb.below HT.out (by repeat (first | (with_reducible first | exact HB.out | apply below_alloc | apply pw_below_drewN | apply below_drew1) | exact HB.out))); rintro e w33 ⟨rfl, hb⟩; have n0_ := Aside0.mk (Kd.R_below (by (with_reducible repeat (first | apply Kd.R_alloc | apply Kd.R_drewN | apply Kd.R_drew)); exact HO253.out) hb); have n1_ := Aside0.mk (Kd.R_below (by (with_reducible repeat (first | apply Kd.R_alloc | apply Kd.R_drewN | apply Kd.R_drew)); exact HO256.out) hb); have n2_ := Aside0.mk (Kd.R_below (by (with_reducible repeat (first | apply Kd.R_alloc | apply Kd.R_drewN | apply Kd.R_drew)); exact HO259.out) hb); have n3_ := Aside0.mk (Kd.C_below (by repeat (first | (with_reducible exact HR263.out) | (with_reducible refine Kd.C_alloc ?_ _) | (with_reducible refine Kd.C_drewN ?_ _) | (with_reducible refine Kd.C_drew ?_) | exact HR263.out)) hb); have n4_ := Aside0.mk (Kd.C_below (by repeat (first | (with_reducible exact HR268.out) | (with_reducible refine Kd.C_alloc ?_ _) | (with_reducible refine Kd.C_drewN ?_ _) | (with_reducible refine Kd.C_drew ?_) | exact HR268.out)) hb); have n5_ := Aside0.mk (below_step (by repeat (first | (with_reducible first | exact HB.out | apply below_alloc | apply pw_below_drewN | apply below_drew1) | exact HB.out)) hb); clear HO253; clear HO256; clear HO259; clear HR263; clear HR268; clear HB; have HO253 := n0_; have HO256 := n1_; have HO259 := n2_; have HR263 := n3_; have HR268 := n4_; have HB := n5_; clear n0_ n1_ n2_ n3_ n4_ n5_; (try clear hb); (try clear hb2); (try clear hk); (try clear hi))))
                  go_meet
                  case rel => exact ⟨_, ((t270 != 0)), (by first | rfl | (simp; done) | (simp [*]; done)), H', ⟨by first | omega | exact Nat.le_refl _⟩, ⟨by repeat (first | (with_reducible first | exact HB.out | apply below_alloc | apply pw_below_drewN | apply below_drew1) | exact HB.out)⟩⟩
                · replace c26 := Bool.eq_false_iff.mpr c26
                  subst c26
                  have H1 : (chancellaw1_TextJoins.j0 k t249 t250 true) = some r := by rw [if_neg (show ¬ (false = true) by decide)] at H; exact H
                  clear H
                  have H := H1
                  clear H1
                  have H' := Aside0.mk H
                  clear H
                  obtain ⟨Ao34, co34, eo34⟩ := Kd.R_slice HO259.out
                  subst eo34
                  obtain ⟨Ao35, co35, eo35⟩ := Kd.R_slice HO253.out
                  subst eo35
                  obtain ⟨Ao36, co36, eo36⟩ := Kd.R_slice HO256.out
                  subst eo36
                  have q37 : ((t251.length : Int) : Int) ≤ ((t257.length : Int) : Int) := of_decide_eq_true (by first | (with_reducible assumption) | assumption)
                  obtain ⟨i037, hi037, _, hsz37, _⟩ := info_parts info21
                  have hroom37 : t257.length ≤ co34 := (Kd.R_reads' HO259.out).2.1
                  have hC37 : Kd.C (Kd.int .i32) _ Ao34 t257.length t257 := (Kd.R_reads' HO259.out).2.2
                  have hcut37 := cut_to (P := Tryd.prog) 27 21 .i64 Tryd.underlying27 hi037 Ao34 t257.length co34 (t251.length : Int) (of_decide_eq_true (by first | (with_reducible assumption) | assumption)) q37 hroom37
                  have hr37 := Kd.C_take (m := ((t251.length : Int) : Int).toNat) hC37 (by omega)
                  have hy37 : y260.length = ((t251.length : Int) : Int).toNat := (by rw [Ny260.out, List.length_take]; omega)
                  rw [← Ny260.out] at hr37
                  rw [← hy37] at hcut37
                  have HR263 := Aside0.mk hr37
                  have HC263 := Aside0.mk (show y260.length ≤ co34 from by omega)
                  clear hr37 hC37 hroom37 hi037 hsz37
                  have KY37 := Aside0.mk hy37
                  clear hy37
                  have KL37 := Aside0.mk (show ((t251.length : Int) : Int).toNat ≤ t257.length from by omega)
                  replace q37 := eq_true q37
                  go_wp2_with (first | (go_at_call 20; (with_reducible refine (chancellaw1_same.calls k _ _ y260 _ _ t251 true _ ?side1 ?side2 ?side3 ?side4 A21.out).mono ?_); (case side1 => repeat (first | exact (by repeat (first | (with_reducible exact HR263.out) | (with_reducible refine Kd.C_alloc ?_ _) | (with_reducible refine Kd.C_drewN ?_ _) | (with_reducible refine Kd.C_drew ?_) | exact HR263.out)) | (with_reducible refine Kd.C_alloc ?_ _) | (with_reducible refine Kd.C_drewN ?_ _) | (with_reducible refine Kd.C_drew ?_))); (case side2 => exact HC263.out); (case side3 => repeat (first | exact (Kd.R_reads' HO253.out).2.2 | (with_reducible refine Kd.C_alloc ?_ _) | (with_reducible refine Kd.C_drewN ?_ _) | (with_reducible refine Kd.C_drew ?_))); (case side4 => exact (Kd.R_reads' HO253.out).2.1); rintro e w' ⟨rfl, ⟨nd, rfl⟩⟩; (try first | exact ⟨rfl, _, World.drewN_drewN _ _ _⟩ | exact ⟨rfl, _, Eq.trans (World.drewN_drewN _ _ _) (congrArg (World.drewN _) (Nat.add_assoc _ _ _))⟩); have q38 : ((t251.length : Int) : Int) ≤ ((t257.length : Int) : Int) := of_decide_eq_true (by first | (with_reducible assumption) | assumption); obtain ⟨i038, hi038, _, hsz38, _⟩ := info_parts info21; have hroom38 : t257.length ≤ co34 := (Kd.R_reads' HO259.out).2.1; have hC38 : Kd.C (Kd.int .i32) _ Ao34 t257.length t257 := (Kd.R_reads' HO259.out).2.2; have q038 : (0 : Int) ≤ ((t251.length : Int) : Int) := of_decide_eq_true (by first | (with_reducible assumption) | assumption); have hcut38 := cut_from (P := Tryd.prog) 27 21 .i64 Tryd.underlying27 hi038 1 hsz38 Ao34 t257.length co34 (t251.length : Int) q038 q38; have hr38 := Kd.C_drop (m := ((t251.length : Int) : Int).toNat) (c := co34) hC38 (by omega) hroom38; obtain ⟨A38, hA38⟩ : ∃ A1, A1 = (if co34 = ((t251.length : Int) : Int).toNat then Ao34 else (Ao34 : Option Addr).map (·.add (((t251.length : Int) : Int).toNat * 1))) := ⟨_, rfl⟩; obtain ⟨c38, hc38⟩ : ∃ c1, c1 = co34 - ((t251.length : Int) : Int).toNat := ⟨_, rfl⟩; have hy38 : y265.length = t257.length - ((t251.length : Int) : Int).toNat := (by rw [Ny265.out, List.length_drop] <;> omega); rw [show (t257).drop ((t251.length : Int) : Int).toNat = y265 from Ny265.out.symm] at hr38; replace hr38 : Kd.C (Kd.int .i32) _ A38 y265.length y265 := (by rw [hA38]; exact hr38); rw [← hy38, ← hA38, ← hc38] at hcut38; have HR268 := Aside0.mk hr38; have HC268 := Aside0.mk (show y265.length ≤ c38 from by rw [hy38, hc38]; exact Nat.sub_le_sub_right hroom38 _); clear hr38 hC38 hroom38 hi038 hsz38 hc38; have KY38 := Aside0.mk hy38; have KA38 := Aside0.mk hA38; clear hy38 hA38; have KL38 := Aside0.mk (show ((t251.length : Int) : Int).toNat ≤ t257.length from by omega); replace q38 := eq_true q38) | (go_at_call 20; (with_reducible refine (chancellaw1_same.calls k _ _ y265 _ _ t254 false _ ?side1 ?side2 ?side3 ?side4 A25.out).mono ?_); (case side1 => repeat (first | exact (by repeat (first | (with_reducible exact HR268.out) | (with_reducible refine Kd.C_alloc ?_ _) | (with_reducible refine Kd.C_drewN ?_ _) | (with_reducible refine Kd.C_drew ?_) | exact HR268.out)) | (with_reducible refine Kd.C_alloc ?_ _) | (with_reducible refine Kd.C_drewN ?_ _) | (with_reducible refine Kd.C_drew ?_))); (case side2 => exact HC268.out); (case side3 => repeat (first | exact (Kd.R_reads' HO256.out).2.2 | (with_reducible refine Kd.C_alloc ?_ _) | (with_reducible refine Kd.C_drewN ?_ _) | (with_reducible refine Kd.C_drew ?_))); (case side4 => exact (Kd.R_reads' HO256.out).2.1); rintro e w' ⟨rfl, ⟨nd, rfl⟩⟩; (try first | exact ⟨rfl, _, World.drewN_drewN _ _ _⟩ | exact ⟨rfl, _, Eq.trans (World.drewN_drewN _ _ _) (congrArg (World.drewN _) (Nat.add_assoc _ _ _))⟩)))
                  repeat (go_quiet (first | (go_at_call 20; (with_reducible refine (chancellaw1_same.calls k _ _ y260 _ _ t251 true _ ?side1 ?side2 ?side3 ?side4 A21.out).mono ?_); (case side1 => repeat (first | exact (by repeat (first | (with_reducible exact HR263.out) | (with_reducible refine Kd.C_alloc ?_ _) | (with_reducible refine Kd.C_drewN ?_ _) | (with_reducible refine Kd.C_drew ?_) | exact HR263.out)) | (with_reducible refine Kd.C_alloc ?_ _) | (with_reducible refine Kd.C_drewN ?_ _) | (with_reducible refine Kd.C_drew ?_))); (case side2 => exact HC263.out); (case side3 => repeat (first | exact (Kd.R_reads' HO253.out).2.2 | (with_reducible refine Kd.C_alloc ?_ _) | (with_reducible refine Kd.C_drewN ?_ _) | (with_reducible refine Kd.C_drew ?_))); (case side4 => exact (Kd.R_reads' HO253.out).2.1); rintro e w' ⟨rfl, ⟨nd, rfl⟩⟩; (try first | exact ⟨rfl, _, World.drewN_drewN _ _ _⟩ | exact ⟨rfl, _, Eq.trans (World.drewN_drewN _ _ _) (congrArg (World.drewN _) (Nat.add_assoc _ _ _))⟩); have q38 : ((t251.length : Int) : Int) ≤ ((t257.length : Int) : Int) := of_decide_eq_true (by first | (with_reducible assumption) | assumption); obtain ⟨i038, hi038, _, hsz38, _⟩ := info_parts info21; have hroom38 : t257.length ≤ co34 := (Kd.R_reads' HO259.out).2.1; have hC38 : Kd.C (Kd.int .i32) _ Ao34 t257.length t257 := (Kd.R_reads' HO259.out).2.2; have q038 : (0 : Int) ≤ ((t251.length : Int) : Int) := of_decide_eq_true (by first | (with_reducible assumption) | assumption); have hcut38 := cut_from (P := Tryd.prog) 27 21 .i64 Tryd.underlying27 hi038 1 hsz38 Ao34 t257.length co34 (t251.length : Int) q038 q38; have hr38 := Kd.C_drop (m := ((t251.length : Int) : Int).toNat) (c := co34) hC38 (by omega) hroom38; obtain ⟨A38, hA38⟩ : ∃ A1, A1 = (if co34 = ((t251.length : Int) : Int).toNat then Ao34 else (Ao34 : Option Addr).map (·.add (((t251.length : Int) : Int).toNat * 1))) := ⟨_, rfl⟩; obtain ⟨c38, hc38⟩ : ∃ c1, c1 = co34 - ((t251.length : Int) : Int).toNat := ⟨_, rfl⟩; have hy38 : y265.length = t257.length - ((t251.length : Int) : Int).toNat := (by rw [Ny265.out, List.length_drop] <;> omega); rw [show (t257).drop ((t251.length : Int) : Int).toNat = y265 from Ny265.out.symm] at hr38; replace hr38 : Kd.C (Kd.int .i32) _ A38 y265.length y265 := (by rw [hA38]; exact hr38); rw [← hy38, ← hA38, ← hc38] at hcut38; have HR268 := Aside0.mk hr38; have HC268 := Aside0.mk (show y265.length ≤ c38 from by rw [hy38, hc38]; exact Nat.sub_le_sub_right hroom38 _); clear hr38 hC38 hroom38 hi038 hsz38 hc38; have KY38 := Aside0.mk hy38; have KA38 := Aside0.mk hA38; clear hy38 hA38; have KL38 := Aside0.mk (show ((t251.length : Int) : Int).toNat ≤ t257.length from by omega); replace q38 := eq_true q38) | (go_at_call 20; (with_reducible refine (chancellaw1_same.calls k _ _ y265 _ _ t254 false _ ?side1 ?side2 ?side3 ?side4 A25.out).mono ?_); (case side1 => repeat (first | exact (by repeat (first | (with_reducible exact HR268.out) | (with_reducible refine Kd.C_alloc ?_ _) | (with_reducible refine Kd.C_drewN ?_ _) | (with_reducible refine Kd.C_drew ?_) | exact HR268.out)) | (with_reducible refine Kd.C_alloc ?_ _) | (with_reducible refine Kd.C_drewN ?_ _) | (with_reducible refine Kd.C_drew ?_))); (case side2 => exact HC268.out); (case side3 => repeat (first | exact (Kd.R_reads' HO256.out).2.2 | (with_reducible refine Kd.C_alloc ?_ _) | (with_reducible refine Kd.C_drewN ?_ _) | (with_reducible refine Kd.C_drew ?_))); (case side4 => exact (Kd.R_reads' HO256.out).2.1); rintro e w' ⟨rfl, ⟨nd, rfl⟩⟩; (try first | exact ⟨rfl, _, World.drewN_drewN _ _ _⟩ | exact ⟨rfl, _, Eq.trans (World.drewN_drewN _ _ _) (congrArg (World.drewN _) (Nat.add_assoc _ _ _))⟩))); try go_wp2_with (first | (go_at_call 20; (with_reducible refine (chancellaw1_same.calls k _ _ y260 _ _ t251 true _ ?side1 ?side2 ?side3 ?side4 A21.out).mono ?_); (case side1 => repeat (first | exact (by repeat (first | (with_reducible exact HR263.out) | (with_reducible refine Kd.C_alloc ?_ _) | (with_reducible refine Kd.C_drewN ?_ _) | (with_reducible refine Kd.C_drew ?_) | exact HR263.out)) | (with_reducible refine Kd.C_alloc ?_ _) | (with_reducible refine Kd.C_drewN ?_ _) | (with_reducible refine Kd.C_drew ?_))); (case side2 => exact HC263.out); (case side3 => repeat (first | exact (Kd.R_reads' HO253.out).2.2 | (with_reducible refine Kd.C_alloc ?_ _) | (with_reducible refine Kd.C_drewN ?_ _) | (with_reducible refine Kd.C_drew ?_))); (case side4 => exact (Kd.R_reads' HO253.out).2.1); rintro e w' ⟨rfl, ⟨nd, rfl⟩⟩; (try first | exact ⟨rfl, _, World.drewN_drewN _ _ _⟩ | exact ⟨rfl, _, Eq.trans (World.drewN_drewN _ _ _) (congrArg (World.drewN _) (Nat.add_assoc _ _ _))⟩); have q38 : ((t251.length : Int) : Int) ≤ ((t257.length : Int) : Int) := of_decide_eq_true (by first | (with_reducible assumption) | assumption); obtain ⟨i038, hi038, _, hsz38, _⟩ := info_parts info21; have hroom38 : t257.length ≤ co34 := (Kd.R_reads' HO259.out).2.1; have hC38 : Kd.C (Kd.int .i32) _ Ao34 t257.length t257 := (Kd.R_reads' HO259.out).2.2; have q038 : (0 : Int) ≤ ((t251.length : Int) : Int) := of_decide_eq_true (by first | (with_reducible assumption) | assumption); have hcut38 := cut_from (P := Tryd.prog) 27 21 .i64 Tryd.underlying27 hi038 1 hsz38 Ao34 t257.length co34 (t251.length : Int) q038 q38; have hr38 := Kd.C_drop (m := ((t251.length : Int) : Int).toNat) (c := co34) hC38 (by omega) hroom38; obtain ⟨A38, hA38⟩ : ∃ A1, A1 = (if co34 = ((t251.length : Int) : Int).toNat then Ao34 else (Ao34 : Option Addr).map (·.add (((t251.length : Int) : Int).toNat * 1))) := ⟨_, rfl⟩; obtain ⟨c38, hc38⟩ : ∃ c1, c1 = co34 - ((t251.length : Int) : Int).toNat := ⟨_, rfl⟩; have hy38 : y265.length = t257.length - ((t251.length : Int) : Int).toNat := (by rw [Ny265.out, List.length_drop] <;> omega); rw [show (t257).drop ((t251.length : Int) : Int).toNat = y265 from Ny265.out.symm] at hr38; replace hr38 : Kd.C (Kd.int .i32) _ A38 y265.length y265 := (by rw [hA38]; exact hr38); rw [← hy38, ← hA38, ← hc38] at hcut38; have HR268 := Aside0.mk hr38; have HC268 := Aside0.mk (show y265.length ≤ c38 from by rw [hy38, hc38]; exact Nat.sub_le_sub_right hroom38 _); clear hr38 hC38 hroom38 hi038 hsz38 hc38; have KY38 := Aside0.mk hy38; have KA38 := Aside0.mk hA38; clear hy38 hA38; have KL38 := Aside0.mk (show ((t251.length : Int) : Int).toNat ≤ t257.length from by omega); replace q38 := eq_true q38) | (go_at_call 20; (with_reducible refine (chancellaw1_same.calls k _ _ y265 _ _ t254 false _ ?side1 ?side2 ?side3 ?side4 A25.out).mono ?_); (case side1 => repeat (first | exact (by repeat (first | (with_reducible exact HR268.out) | (with_reducible refine Kd.C_alloc ?_ _) | (with_reducible refine Kd.C_drewN ?_ _) | (with_reducible refine Kd.C_drew ?_) | exact HR268.out)) | (with_reducible refine Kd.C_alloc ?_ _) | (with_reducible refine Kd.C_drewN ?_ _) | (with_reducible refine Kd.C_drew ?_))); (case side2 => exact HC268.out); (case side3 => repeat (first | exact (Kd.R_reads' HO256.out).2.2 | (with_reducible refine Kd.C_alloc ?_ _) | (with_reducible refine Kd.C_drewN ?_ _) | (with_reducible refine Kd.C_drew ?_))); (case side4 => exact (Kd.R_reads' HO256.out).2.1); rintro e w' ⟨rfl, ⟨nd, rfl⟩⟩; (try first | exact ⟨rfl, _, World.drewN_drewN _ _ _⟩ | exact ⟨rfl, _, Eq.trans (World.drewN_drewN _ _ _) (congrArg (World.drewN _) (Nat.add_assoc _ _ _))⟩))))
                  go_meet
                  case rel => exact ⟨_, (true), (by first | rfl | (simp; done) | (simp [*]; done)), H', ⟨by first | omega | exact Nat.le_refl _⟩, ⟨by repeat (first | (with_reducible first | exact HB.out | apply below_alloc | apply pw_below_drewN | apply below_drew1) | exact HB.out)⟩⟩
              · replace c22 := Bool.eq_false_iff.mpr c22
                subst c22
                have H1 : (chancellaw1_TextJoins.j0 k t249 t250 true) = some r := by rw [if_neg (show ¬ (false = true) by decide)] at H; exact H
                clear H
                have H := H1
                clear H1
                have H' := Aside0.mk H
                clear H
                obtain ⟨Ao39, co39, eo39⟩ := Kd.R_slice HO259.out
                subst eo39
                obtain ⟨Ao40, co40, eo40⟩ := Kd.R_slice HO253.out
                subst eo40
                obtain ⟨Ao41, co41, eo41⟩ := Kd.R_slice HO256.out
                subst eo41
                have q42 : ((t251.length : Int) : Int) ≤ ((t257.length : Int) : Int) := of_decide_eq_true (by first | (with_reducible assumption) | assumption)
                obtain ⟨i042, hi042, _, hsz42, _⟩ := info_parts info21
                have hroom42 : t257.length ≤ co39 := (Kd.R_reads' HO259.out).2.1
                have hC42 : Kd.C (Kd.int .i32) _ Ao39 t257.length t257 := (Kd.R_reads' HO259.out).2.2
                have hcut42 := cut_to (P := Tryd.prog) 27 21 .i64 Tryd.underlying27 hi042 Ao39 t257.length co39 (t251.length : Int) (of_decide_eq_true (by first | (with_reducible assumption) | assumption)) q42 hroom42
                have hr42 := Kd.C_take (m := ((t251.length : Int) : Int).toNat) hC42 (by omega)
                have hy42 : y260.length = ((t251.length : Int) : Int).toNat := (by rw [Ny260.out, List.length_take]; omega)
                rw [← Ny260.out] at hr42
                rw [← hy42] at hcut42
                have HR263 := Aside0.mk hr42
                have HC263 := Aside0.mk (show y260.length ≤ co39 from by omega)
                clear hr42 hC42 hroom42 hi042 hsz42
                have KY42 := Aside0.mk hy42
                clear hy42
                have KL42 := Aside0.mk (show ((t251.length : Int) : Int).toNat ≤ t257.length from by omega)
                replace q42 := eq_true q42
                go_wp2_with (first | (go_at_call 20; (with_reducible refine (chancellaw1_same.calls k _ _ y260 _ _ t251 false _ ?side1 ?side2 ?side3 ?side4 A21.out).mono ?_); (case side1 => repeat (first | exact (by repeat (first | (with_reducible exact HR263.out) | (with_reducible refine Kd.C_alloc ?_ _) | (with_reducible refine Kd.C_drewN ?_ _) | (with_reducible refine Kd.C_drew ?_) | exact HR263.out)) | (with_reducible refine Kd.C_alloc ?_ _) | (with_reducible refine Kd.C_drewN ?_ _) | (with_reducible refine Kd.C_drew ?_))); (case side2 => exact HC263.out); (case side3 => repeat (first | exact (Kd.R_reads' HO253.out).2.2 | (with_reducible refine Kd.C_alloc ?_ _) | (with_reducible refine Kd.C_drewN ?_ _) | (with_reducible refine Kd.C_drew ?_))); (case side4 => exact (Kd.R_reads' HO253.out).2.1); rintro e w' ⟨rfl, ⟨nd, rfl⟩⟩; (try first | exact ⟨rfl, _, World.drewN_drewN _ _ _⟩ | exact ⟨rfl, _, Eq.trans (World.drewN_drewN _ _ _) (congrArg (World.drewN _) (Nat.add_assoc _ _ _))⟩)))
                repeat (go_quiet (first | (go_at_call 20; (with_reducible refine (chancellaw1_same.calls k _ _ y260 _ _ t251 false _ ?side1 ?side2 ?side3 ?side4 A21.out).mono ?_); (case side1 => repeat (first | exact (by repeat (first | (with_reducible exact HR263.out) | (with_reducible refine Kd.C_alloc ?_ _) | (with_reducible refine Kd.C_drewN ?_ _) | (with_reducible refine Kd.C_drew ?_) | exact HR263.out)) | (with_reducible refine Kd.C_alloc ?_ _) | (with_reducible refine Kd.C_drewN ?_ _) | (with_reducible refine Kd.C_drew ?_))); (case side2 => exact HC263.out); (case side3 => repeat (first | exact (Kd.R_reads' HO253.out).2.2 | (with_reducible refine Kd.C_alloc ?_ _) | (with_reducible refine Kd.C_drewN ?_ _) | (with_reducible refine Kd.C_drew ?_))); (case side4 => exact (Kd.R_reads' HO253.out).2.1); rintro e w' ⟨rfl, ⟨nd, rfl⟩⟩; (try first | exact ⟨rfl, _, World.drewN_drewN _ _ _⟩ | exact ⟨rfl, _, Eq.trans (World.drewN_drewN _ _ _) (congrArg (World.drewN _) (Nat.add_assoc _ _ _))⟩))); try go_wp2_with (first | (go_at_call 20; (with_reducible refine (chancellaw1_same.calls k _ _ y260 _ _ t251 false _ ?side1 ?side2 ?side3 ?side4 A21.out).mono ?_); (case side1 => repeat (first | exact (by repeat (first | (with_reducible exact HR263.out) | (with_reducible refine Kd.C_alloc ?_ _) | (with_reducible refine Kd.C_drewN ?_ _) | (with_reducible refine Kd.C_drew ?_) | exact HR263.out)) | (with_reducible refine Kd.C_alloc ?_ _) | (with_reducible refine Kd.C_drewN ?_ _) | (with_reducible refine Kd.C_drew ?_))); (case side2 => exact HC263.out); (case side3 => repeat (first | exact (Kd.R_reads' HO253.out).2.2 | (with_reducible refine Kd.C_alloc ?_ _) | (with_reducible refine Kd.C_drewN ?_ _) | (with_reducible refine Kd.C_drew ?_))); (case side4 => exact (Kd.R_reads' HO253.out).2.1); rintro e w' ⟨rfl, ⟨nd, rfl⟩⟩; (try first | exact ⟨rfl, _, World.drewN_drewN _ _ _⟩ | exact ⟨rfl, _, Eq.trans (World.drewN_drewN _ _ _) (congrArg (World.drewN _) (Nat.add_assoc _ _ _))⟩))))
                go_meet
                case rel => exact ⟨_, (true), (by first | rfl | (simp; done) | (simp [*]; done)), H', ⟨by first | omega | exact Nat.le_refl _⟩, ⟨by repeat (first | (with_reducible first | exact HB.out | apply below_alloc | apply pw_below_drewN | apply below_drew1) | exact HB.out)⟩⟩
            · rw [if_neg c20] at H
              exact absurd H (by simp)
          · rw [if_neg c19] at H
            exact absurd H (by simp)
        · rw [if_neg c18] at H
          have c18b0 : ((t257.length : Int) == (wrap64 ((t251.length : Int) + (t254.length : Int)))) = false := beq_eq_false_iff_ne.mpr c18
          have c18b1 : ((t257.length : Int) != (wrap64 ((t251.length : Int) + (t254.length : Int)))) = true := bne_iff_ne.mpr c18
          (first | rw [c18b0] | (simp only [i64_w, i32_w]; rw [c18b0]) | skip)
          have H' := Aside0.mk H
          clear H
          obtain ⟨Ao43, co43, eo43⟩ := Kd.R_slice HO259.out
          subst eo43
          obtain ⟨Ao44, co44, eo44⟩ := Kd.R_slice HO253.out
          subst eo44
          obtain ⟨Ao45, co45, eo45⟩ := Kd.R_slice HO256.out
          subst eo45
          go_wp2
          repeat (go_quiet (fail); try go_wp2)
          go_meet
          case rel => exact ⟨_, (true), (by first | rfl | (simp; done) | (simp [*]; done)), H', ⟨by first | omega | exact Nat.le_refl _⟩, ⟨by repeat (first | (with_reducible first | exact HB.out | apply below_alloc | apply pw_below_drewN | apply below_drew1) | exact HB.out)⟩⟩
      case rest =>
        clear HC11
        try clear c1
        try clear c2
        try clear p2
        try clear c3
        try clear q3
        try clear c4
        try clear q4
        try clear c6
        try clear p6
        try clear c9
        try clear c9b0
        try clear c9b1
        try clear c9b2
        try clear c18
        try clear c18b0
        try clear c18b1
        try clear c19
        try clear c19b0
        try clear c19b1
        try clear c20
        try clear c20b0
        try clear c20b1
        try clear c22
        try clear c23
        try clear c23b0
        try clear c24
        try clear c24b0
        try clear c26
        try clear q31
        try clear c32
        try clear q32
        try clear q37
        try clear c38
        try clear q38
        try clear q42
        try clear q032
        try clear q038
        try clear q31
        try clear q32
        try clear q37
        try clear q38
        try clear q42
        obtain ⟨kq, x59_10, rfl, HA, HJ10, HB⟩ := hcut
        cases kq with
        | zero => exact absurd HA.out (by simp [chancellaw1_TextJoins.j0])
        | succ kj10 =>
          have H := HA.out
          clear HA
          simp only [chancellaw1_TextJoins.j0] at H
          by_cases c46 : x59_10 = true
          · subst c46
            have H1 : (some false) = some r := by rw [if_pos rfl] at H; exact H
            clear H
            have H := H1
            clear H1
            obtain rfl := Option.some.inj H
            go_wp2
            repeat (go_quiet (fail); try go_wp2)
            go_ret
            exact ⟨by first | rfl | (simp [errW_none, errW_some] <;> rfl) | (simp [*, errW_none, errW_some] <;> rfl), by repeat (first | (with_reducible first | exact HB.out | apply below_alloc | apply pw_below_drewN | apply below_drew1) | exact HB.out)⟩
          · replace c46 := Bool.eq_false_iff.mpr c46
            subst c46
            have H1 : ((text_Quote.f t249).bind fun t271 => ((text_Quote.f t250).bind fun t272 => (if t249.size + t250.size ≤ 9223372036854775807 then ((text_Quote.f (t249 ++ t250)).bind fun t273 => (if 0 ≤ (wrap64 ((t271.size : Int) - 1)) then (if (wrap64 ((t271.size : Int) - 1)) ≤ (t271.size : Int) then (if 1 ≤ (t272.size : Int) then (if (t271.extract 0 ((wrap64 ((t271.size : Int) - 1)) : Int).toNat).size + (t272.extract 1 t272.size).size ≤ 9223372036854775807 then (some (((t271.extract 0 ((wrap64 ((t271.size : Int) - 1)) : Int).toNat) ++ (t272.extract 1 t272.size)).toList == t273.toList)) else (none)) else (none)) else (none)) else (none))) else (none)))) = some r := by rw [if_neg (show ¬ (false = true) by decide)] at H; exact H
            clear H
            have H := H1
            clear H1
            replace H := Option.bind_eq_some_iff.mp H
            obtain ⟨t271, A470, H⟩ := H
            replace H : ((text_Quote.f t250).bind fun t272 => (if t249.size + t250.size ≤ 9223372036854775807 then ((text_Quote.f (t249 ++ t250)).bind fun t273 => (if 0 ≤ (wrap64 ((t271.size : Int) - 1)) then (if (wrap64 ((t271.size : Int) - 1)) ≤ (t271.size : Int) then (if 1 ≤ (t272.size : Int) then (if (t271.extract 0 ((wrap64 ((t271.size : Int) - 1)) : Int).toNat).size + (t272.extract 1 t272.size).size ≤ 9223372036854775807 then (some (((t271.extract 0 ((wrap64 ((t271.size : Int) - 1)) : Int).toNat) ++ (t272.extract 1 t272.size)).toList == t273.toList)) else (none)) else (none)) else (none)) else (none))) else (none))) = some r := H
            have A47 := Aside0.mk A470
            clear A470
            replace H := Option.bind_eq_some_iff.mp H
            obtain ⟨t272, A480, H⟩ := H
            replace H : (if t249.size + t250.size ≤ 9223372036854775807 then ((text_Quote.f (t249 ++ t250)).bind fun t273 => (if 0 ≤ (wrap64 ((t271.size : Int) - 1)) then (if (wrap64 ((t271.size : Int) - 1)) ≤ (t271.size : Int) then (if 1 ≤ (t272.size : Int) then (if (t271.extract 0 ((wrap64 ((t271.size : Int) - 1)) : Int).toNat).size + (t272.extract 1 t272.size).size ≤ 9223372036854775807 then (some (((t271.extract 0 ((wrap64 ((t271.size : Int) - 1)) : Int).toNat) ++ (t272.extract 1 t272.size)).toList == t273.toList)) else (none)) else (none)) else (none)) else (none))) else (none)) = some r := H
            have A48 := Aside0.mk A480
            clear A480
            by_cases c49 : t249.size + t250.size ≤ 9223372036854775807
            · rw [if_pos c49] at H
              have c49b0 := eq_true c49
              have c49b1 : decide (t249.size + t250.size ≤ 9223372036854775807) = true := decide_eq_true c49
              try have c49b2 : (9223372036854775807 < t249.size + t250.size) = False := eq_false (Nat.not_lt.2 c49)
              replace H := Option.bind_eq_some_iff.mp H
              obtain ⟨t273, A500, H⟩ := H
              replace H : (if 0 ≤ (wrap64 ((t271.size : Int) - 1)) then (if (wrap64 ((t271.size : Int) - 1)) ≤ (t271.size : Int) then (if 1 ≤ (t272.size : Int) then (if (t271.extract 0 ((wrap64 ((t271.size : Int) - 1)) : Int).toNat).size + (t272.extract 1 t272.size).size ≤ 9223372036854775807 then (some (((t271.extract 0 ((wrap64 ((t271.size : Int) - 1)) : Int).toNat) ++ (t272.extract 1 t272.size)).toList == t273.toList)) else (none)) else (none)) else (none)) else (none)) = some r := H
              have A50 := Aside0.mk A500
              clear A500
              obtain ⟨ji51, hji51⟩ : ∃ j_ : Int, (wrap64 ((t271.size : Int) - 1)) = j_ := ⟨_, rfl⟩
              replace H : (if 0 ≤ (ji51) then (if (ji51) ≤ (t271.size : Int) then (if 1 ≤ (t272.size : Int) then (if (t271.extract 0 ((ji51) : Int).toNat).size + (t272.extract 1 t272.size).size ≤ 9223372036854775807 then (some (((t271.extract 0 ((ji51) : Int).toNat) ++ (t272.extract 1 t272.size)).toList == t273.toList)) else (none)) else (none)) else (none)) else (none)) = some r := by first | (rw [hji51] at H; exact H) | (simp only [hji51] at H ⊢; exact H)
              (try rw [hji51] at A47)
              (try rw [hji51] at A48)
              (try rw [hji51] at A50)
              have hji51w : (IntKind.i64.wrap ((t271.size : Int) - 1)) = ji51 := (i64_w _).trans hji51
              by_cases c52 : 0 ≤ (ji51)
              · rw [if_pos c52] at H
                have c52b0 := eq_true c52
                have c52b1 : decide (0 ≤ (ji51)) = true := decide_eq_true c52
                clear c52
                by_cases c53 : (ji51) ≤ (t271.size : Int)
                · rw [if_pos c53] at H
                  have c53b0 := eq_true c53
                  have c53b1 : decide ((ji51) ≤ (t271.size : Int)) = true := decide_eq_true c53
                  clear c53
                  by_cases c54 : 1 ≤ (t272.size : Int)
                  · rw [if_pos c54] at H
                    have c54b0 := eq_true c54
                    have c54b1 : decide (1 ≤ (t272.size : Int)) = true := decide_eq_true c54
                    clear c54
                    by_cases c55 : (t271.extract 0 ((ji51) : Int).toNat).size + (t272.extract 1 t272.size).size ≤ 9223372036854775807
                    · rw [if_pos c55] at H
                      have c55b0 := eq_true c55
                      have c55b1 : decide ((t271.extract 0 ((ji51) : Int).toNat).size + (t272.extract 1 t272.size).size ≤ 9223372036854775807) = true := decide_eq_true c55
                      try have c55b2 : (9223372036854775807 < (t271.extract 0 ((ji51) : Int).toNat).size + (t272.extract 1 t272.size).size) = False := eq_false (Nat.not_lt.2 c55)
                      obtain rfl := Option.some.inj H
                      go_wp2_with (first | (go_at_call 22; (with_reducible refine (text_Quote.calls t249 t271 _ A47.out ?side1).mono ?_); (case side1 => exact Tb.below HT.out (by repeat (first | (with_reducible first | exact HB.out | apply below_alloc | apply pw_below_drewN | apply below_drew1) | exact HB.out))); rintro e w56 ⟨rfl, hb⟩; have n0_ := Aside0.mk (below_step (by repeat (first | (with_reducible first | exact HB.out | apply below_alloc | apply pw_below_drewN | apply below_drew1) | exact HB.out)) hb); clear HB; have HB := n0_; clear n0_; (try clear hb); (try clear hb2); (try clear hk); (try clear hi)) | (go_at_call 22; (with_reducible refine (text_Quote.calls t250 t272 _ A48.out ?side1).mono ?_); (case side1 => exact Tb.below HT.out (by repeat (first | (with_reducible first | exact HB.out | apply below_alloc | apply pw_below_drewN | apply below_drew1) | exact HB.out))); rintro e w57 ⟨rfl, hb⟩; have n0_ := Aside0.mk (below_step (by repeat (first | (with_reducible first | exact HB.out | apply below_alloc | apply pw_below_drewN | apply below_drew1) | exact HB.out)) hb); clear HB; have HB := n0_; clear n0_; (try clear hb); (try clear hb2); (try clear hk); (try clear hi)) | (go_at_call 22; (with_reducible refine (text_Quote.calls (t249 ++ t250) t273 _ A50.out ?side1).mono ?_); (case side1 => exact Tb.below HT.out (by repeat (first | (with_reducible first | exact HB.out | apply below_alloc | apply pw_below_drewN | apply below_drew1) | exact HB.out))); rintro e w58 ⟨rfl, hb⟩; have n0_ := Aside0.mk (below_step (by repeat (first | (with_reducible first | exact HB.out | apply below_alloc | apply pw_below_drewN | apply below_drew1) | exact HB.out)) hb); clear HB; have HB := n0_; clear n0_; (try clear hb); (try clear hb2); (try clear hk); (try clear hi)))
                      repeat (go_quiet (first | (go_at_call 22; (with_reducible refine (text_Quote.calls t249 t271 _ A47.out ?side1).mono ?_); (case side1 => exact Tb.below HT.out (by repeat (first | (with_reducible first | exact HB.out | apply below_alloc | apply pw_below_drewN | apply below_drew1) | exact HB.out))); rintro e w56 ⟨rfl, hb⟩; have n0_ := Aside0.mk (below_step (by repeat (first | (with_reducible first | exact HB.out | apply below_alloc | apply pw_below_drewN | apply below_drew1) | exact HB.out)) hb); clear HB; have HB := n0_; clear n0_; (try clear hb); (try clear hb2); (try clear hk); (try clear hi)) | (go_at_call 22; (with_reducible refine (text_Quote.calls t250 t272 _ A48.out ?side1).mono ?_); (case side1 => exact Tb.below HT.out (by repeat (first | (with_reducible first | exact HB.out | apply below_alloc | apply pw_below_drewN | apply below_drew1) | exact HB.out))); rintro e w57 ⟨rfl, hb⟩; have n0_ := Aside0.mk (below_step (by repeat (first | (with_reducible first | exact HB.out | apply below_alloc | apply pw_below_drewN | apply below_drew1) | exact HB.out)) hb); clear HB; have HB := n0_; clear n0_; (try clear hb); (try clear hb2); (try clear hk); (try clear hi)) | (go_at_call 22; (with_reducible refine (text_Quote.calls (t249 ++ t250) t273 _ A50.out ?side1).mono ?_); (case side1 => exact Tb.below HT.out (by repeat (first | (with_reducible first | exact HB.out | apply below_alloc | apply pw_below_drewN | apply below_drew1) | exact HB.out))); rintro e w58 ⟨rfl, hb⟩; have n0_ := Aside0.mk (below_step (by repeat (first | (with_reducible first | exact HB.out | apply below_alloc | apply pw_below_drewN | apply below_drew1) | exact HB.out)) hb); clear HB; have HB := n0_; clear n0_; (try clear hb); (try clear hb2); (try clear hk); (try clear hi))); try go_wp2_with (first | (go_at_call 22; (with_reducible refine (text_Quote.calls t249 t271 _ A47.out ?side1).mono ?_); (case side1 => exact Tb.below HT.out (by repeat (first | (with_reducible first | exact HB.out | apply below_alloc | apply pw_below_drewN | apply below_drew1) | exact HB.out))); rintro e w56 ⟨rfl, hb⟩; have n0_ := Aside0.mk (below_step (by repeat (first | (with_reducible first | exact HB.out | apply below_alloc | apply pw_below_drewN | apply below_drew1) | exact HB.out)) hb); clear HB; have HB := n0_; clear n0_; (try clear hb); (try clear hb2); (try clear hk); (try clear hi)) | (go_at_call 22; (with_reducible refine (text_Quote.calls t250 t272 _ A48.out ?side1).mono ?_); (case side1 => exact Tb.below HT.out (by repeat (first | (with_reducible first | exact HB.out | apply below_alloc | apply pw_below_drewN | apply below_drew1) | exact HB.out))); rintro e w57 ⟨rfl, hb⟩; have n0_ := Aside0.mk (below_step (by repeat (first | (with_reducible first | exact HB.out | apply below_alloc | apply pw_below_drewN | apply below_drew1) | exact HB.out)) hb); clear HB; have HB := n0_; clear n0_; (try clear hb); (try clear hb2); (try clear hk); (try clear hi)) | (go_at_call 22; (with_reducible refine (text_Quote.calls (t249 ++ t250) t273 _ A50.out ?side1).mono ?_); (case side1 => exact Tb.below HT.out (by repeat (first | (with_reducible first | exact HB.out | apply below_alloc | apply pw_below_drewN | apply below_drew1) | exact HB.out))); rintro e w58 ⟨rfl, hb⟩; have n0_ := Aside0.mk (below_step (by repeat (first | (with_reducible first | exact HB.out | apply below_alloc | apply pw_below_drewN | apply below_drew1) | exact HB.out)) hb); clear HB; have HB := n0_; clear n0_; (try clear hb); (try clear hb2); (try clear hk); (try clear hi))))
                      go_ret
                      exact ⟨by first | rfl | (simp [errW_none, errW_some] <;> rfl) | (simp only [← hji51]; first | rfl | (simp [errW_none, errW_some] <;> rfl)) | (simp [*, errW_none, errW_some] <;> rfl), by repeat (first | (with_reducible first | exact HB.out | apply below_alloc | apply pw_below_drewN | apply below_drew1) | exact HB.out)⟩
                    · rw [if_neg c55] at H
                      exact absurd H (by simp)
                  · rw [if_neg c54] at H
                    exact absurd H (by simp)
                · rw [if_neg c53] at H
                  exact absurd H (by simp)
              · rw [if_neg c52] at H
                exact absurd H (by simp)
            · rw [if_neg c49] at H
              exact absurd H (by simp)
    · rw [if_neg c9] at H
      exact absurd H (by simp)
  · replace c4 := Bool.eq_false_iff.mpr c4
    subst c4
    have H1 : (some false) = some r := by rw [if_neg (show ¬ (false = true) by decide)] at H; exact H
    clear H
    have H := H1
    clear H1
    obtain rfl := Option.some.inj H
    go_enter Tryd.func6, Tryd.ntmps6
    go_wp2_with (first | (go_at_call 12; (with_reducible refine (chancellaw1_known.calls k  false _ A3.out ?side1).mono ?_); (case side1 => exact Tb.below HT.out (by repeat (first | (with_reducible first | exact HB.out | apply below_alloc | apply pw_below_drewN | apply below_drew1) | exact HB.out))); rintro e w59 ⟨rfl, hb⟩; have n0_ := Aside0.mk (below_step (by repeat (first | (with_reducible first | exact HB.out | apply below_alloc | apply pw_below_drewN | apply below_drew1) | exact HB.out)) hb); clear HB; have HB := n0_; clear n0_; (try clear hb); (try clear hb2); (try clear hk); (try clear hi)))
    repeat (go_quiet (first | (go_at_call 12; (with_reducible refine (chancellaw1_known.calls k  false _ A3.out ?side1).mono ?_); (case side1 => exact Tb.below HT.out (by repeat (first | (with_reducible first | exact HB.out | apply below_alloc | apply pw_below_drewN | apply below_drew1) | exact HB.out))); rintro e w59 ⟨rfl, hb⟩; have n0_ := Aside0.mk (below_step (by repeat (first | (with_reducible first | exact HB.out | apply below_alloc | apply pw_below_drewN | apply below_drew1) | exact HB.out)) hb); clear HB; have HB := n0_; clear n0_; (try clear hb); (try clear hb2); (try clear hk); (try clear hi))); try go_wp2_with (first | (go_at_call 12; (with_reducible refine (chancellaw1_known.calls k  false _ A3.out ?side1).mono ?_); (case side1 => exact Tb.below HT.out (by repeat (first | (with_reducible first | exact HB.out | apply below_alloc | apply pw_below_drewN | apply below_drew1) | exact HB.out))); rintro e w59 ⟨rfl, hb⟩; have n0_ := Aside0.mk (below_step (by repeat (first | (with_reducible first | exact HB.out | apply below_alloc | apply pw_below_drewN | apply below_drew1) | exact HB.out)) hb); clear HB; have HB := n0_; clear n0_; (try clear hb); (try clear hb2); (try clear hk); (try clear hi))))
    go_ret
    exact ⟨by first | rfl | (simp [errW_none, errW_some] <;> rfl) | (simp [*, errW_none, errW_some] <;> rfl), by repeat (first | (with_reducible first | exact HB.out | apply below_alloc | apply pw_below_drewN | apply below_drew1) | exact HB.out)⟩

/-- THE ONE PURE STATEMENT of chancellaw1_TextJoins: yours. -/
def chancellaw1_TextJoins.Pure : Prop := ∀ (l0 : List Int) (l1 : List Int), l0.length ≤ maxLen → l0.length * 8 ≤ 140737488351232 → (∀ x ∈ l0, (Lit.int .i64 x).wf = true) → l1.length ≤ maxLen → l1.length * 8 ≤ 140737488351232 → (∀ x ∈ l1, (Lit.int .i64 x).wf = true) → ∃ k, chancellaw1_TextJoins.f k l0 l1 = some true
theorem chancellaw1_TextJoins.walk (P : chancellaw1_TextJoins.Pure) (a0 : Option Addr) (len0 cap0 : Nat) (z0 : List Int) (a1 : Option Addr) (len1 cap1 : Nat) (z1 : List Int) (w : World) (w0 : (a0 = none ∧ len0 = 0 ∧ cap0 = 0 ∧ z0 = []) ∨ ∃ x, a0 = some x ∧ len0 ≤ cap0 ∧ cap0 ≤ maxLen ∧ z0.length = cap0 ∧ (∀ i, i < z0.length → w.cell? (x.add i) = some (.int .i64 (z0.getD i 0))) ∧ ∀ n ∈ z0, (Lit.int .i64 n).wf = true) (y0 : len0 * 8 ≤ 140737488351232) (w1 : (a1 = none ∧ len1 = 0 ∧ cap1 = 0 ∧ z1 = []) ∨ ∃ x, a1 = some x ∧ len1 ≤ cap1 ∧ cap1 ≤ maxLen ∧ z1.length = cap1 ∧ (∀ i, i < z1.length → w.cell? (x.add i) = some (.int .i64 (z1.getD i 0))) ∧ ∀ n ∈ z1, (Lit.int .i64 n).wf = true) (y1 : len1 * 8 ≤ 140737488351232) (hT : Tb w) :
    Calls Tryd.prog 6 #[.slice a0 len0 cap0, .slice a1 len1 cap1] w fun e w' => e = .returned (.bool true) ∧ Below w.heap.size w w' := by
  obtain ⟨l0, rfl, hr0, hm0, hw0, hc0⟩ := ReadsInt.ofRowC w0
  obtain ⟨l1, rfl, hr1, hm1, hw1, hc1⟩ := ReadsInt.ofRowC w1
  obtain ⟨k, h⟩ := P l0 l1 hm0 y0 hw0 hm1 y1 hw1
  refine (chancellaw1_TextJoins.calls k _ _ l0 _ _ l1 true w (Kd.C_of_reads (d := (0 : Int)) (h1 := fun _ => rfl) hr0) hc0 (Kd.C_of_reads (d := (0 : Int)) (h1 := fun _ => rfl) hr1) hc1 h hT).mono ?_
  rintro e w' ⟨rfl, hd⟩
  exact ⟨rfl, hd⟩

end Go.Proofs.YtapccgkkcgggiaaDoor.GB
