-- Written by wip/tools/gprint.py over the kit's printer.
import Derived.Test.YtapccgkkcgggiaaDoorGB0
import Derived.Test.YtapccgkkcgggiaaDoorGB1
import Derived.Test.YtapccgkkcgggiaaDoorGB9
import Derived.Test.YtapccgkkcgggiaaDoorGB10
namespace Go.Proofs.YtapccgkkcgggiaaDoor.GB
open Go.RowKit Go.Proofs.YtapccgkkcgggiaaDoorW.PrintWords Go.Proofs.YtapccgkkcgggiaaDoorW.PrintLast Go.Proofs.YtapccgkkcgggiaaDoor.HandB Go.Proofs.YtapccgkkcgggiaaDoorW.PrintMore
attribute [local go_sem] max2_int min2_int max_two min_two max_three min_three max_four min_four   -- for this text's walks alone
set_option linter.unusedVariables false
set_option linter.unusedSimpArgs false

/-! ### chancellaw1_TextSize: function 8 -/
mutual
def chancellaw1_TextSize.j0 : Nat → Int → ByteArray → Int → Bool → Option (Bool)
  | 0, _, _, _, _ => none
  | k + 1, x0, x3, x4, x32 => if x32 = true then (if x4 = 11 then (some (x3.toList == ([] : List UInt8))) else (some false)) else (if x0 ≥ 128 then (chancellaw1_TextSize.j1 k x0 x3 x4 2) else (chancellaw1_TextSize.j1 k x0 x3 x4 1))
def chancellaw1_TextSize.j1 : Nat → Int → ByteArray → Int → Int → Option (Bool)
  | 0, _, _, _, _ => none
  | k + 1, x0, x3, x4, x5 => if x0 ≥ 2048 then (chancellaw1_TextSize.j2 k x0 x3 x4 3) else (chancellaw1_TextSize.j2 k x0 x3 x4 x5)
def chancellaw1_TextSize.j2 : Nat → Int → ByteArray → Int → Int → Option (Bool)
  | 0, _, _, _, _ => none
  | k + 1, x0, x3, x4, x5 => if x0 ≥ 65536 then (chancellaw1_TextSize.j3 k x0 x3 x4 4) else (chancellaw1_TextSize.j3 k x0 x3 x4 x5)
def chancellaw1_TextSize.j3 : Nat → Int → ByteArray → Int → Int → Option (Bool)
  | 0, _, _, _, _ => none
  | k + 1, x0, x3, x4, x5 => (text_Runes.f x3).bind fun t281 => (if x4 = 0 then (if (x3.size : Int) = x5 then (if (t281.length : Int) = 1 then (if 0 < (t281.length : Int) then (chancellaw1_TextSize.j4 k x3 x5 ((rd t281 0) != (wrap32 (x0)))) else (none)) else (chancellaw1_TextSize.j4 k x3 x5 true)) else (chancellaw1_TextSize.j4 k x3 x5 true)) else (chancellaw1_TextSize.j4 k x3 x5 true))
def chancellaw1_TextSize.j4 : Nat → ByteArray → Int → Bool → Option (Bool)
  | 0, _, _, _ => none
  | k + 1, x3, x5, x67 => if x67 = true then (some false) else (if x5 = 1 then (some true) else (if 1 ≤ (x3.size : Int) then ((text_Check.f (x3.extract 1 x3.size)).bind fun t285 => (if t285 = 11 then (if 0 ≤ (wrap64 (x5 - 1)) then (if (wrap64 (x5 - 1)) ≤ (x3.size : Int) then ((text_Check.f (x3.extract 0 ((wrap64 (x5 - 1)) : Int).toNat)).bind fun t286 => (some (t286 == 11))) else (none)) else (none)) else (some false))) else (none)))
end
def chancellaw1_TextSize.f (k : Nat) (a0 : Int) : Option (Bool) := (chancellaw1_known.f k).bind fun t274 => (if t274 = true then ((chancellaw1_within.f a0 1117112).bind fun t275 => ((text_Of.f k (([wrap32 (wrap64 (t275 - 1000))] : List Int))).bind fun bt279 => (if (wrap64 (t275 - 1000)) < 0 then (chancellaw1_TextSize.j0 k (wrap64 (t275 - 1000)) bt279.1 bt279.2 true) else (if (wrap64 (t275 - 1000)) > 1114111 then (chancellaw1_TextSize.j0 k (wrap64 (t275 - 1000)) bt279.1 bt279.2 true) else (if (wrap64 (t275 - 1000)) ≥ 55296 then (chancellaw1_TextSize.j0 k (wrap64 (t275 - 1000)) bt279.1 bt279.2 (decide ((wrap64 (t275 - 1000)) ≤ 57343))) else (chancellaw1_TextSize.j0 k (wrap64 (t275 - 1000)) bt279.1 bt279.2 false)))))) else (some false))
theorem chancellaw1_TextSize.mono_l : ∀ k, (∀ y0 y1 y2 y3, LeO (chancellaw1_TextSize.j0 k y0 y1 y2 y3) (chancellaw1_TextSize.j0 (k + 1) y0 y1 y2 y3)) ∧ (∀ y0 y1 y2 y3, LeO (chancellaw1_TextSize.j1 k y0 y1 y2 y3) (chancellaw1_TextSize.j1 (k + 1) y0 y1 y2 y3)) ∧ (∀ y0 y1 y2 y3, LeO (chancellaw1_TextSize.j2 k y0 y1 y2 y3) (chancellaw1_TextSize.j2 (k + 1) y0 y1 y2 y3)) ∧ (∀ y0 y1 y2 y3, LeO (chancellaw1_TextSize.j3 k y0 y1 y2 y3) (chancellaw1_TextSize.j3 (k + 1) y0 y1 y2 y3)) ∧ (∀ y0 y1 y2, LeO (chancellaw1_TextSize.j4 k y0 y1 y2) (chancellaw1_TextSize.j4 (k + 1) y0 y1 y2))
  | 0 => ⟨fun _ _ _ _ r h => by simp [chancellaw1_TextSize.j0] at h, fun _ _ _ _ r h => by simp [chancellaw1_TextSize.j1] at h, fun _ _ _ _ r h => by simp [chancellaw1_TextSize.j2] at h, fun _ _ _ _ r h => by simp [chancellaw1_TextSize.j3] at h, fun _ _ _ r h => by simp [chancellaw1_TextSize.j4] at h⟩
  | k + 1 => by
    obtain ⟨ih0, ih1, ih2, ih3, ih4⟩ := chancellaw1_TextSize.mono_l k
    refine ⟨?_, ?_, ?_, ?_, ?_⟩
    · intro y0 y1 y2 y3
      unfold chancellaw1_TextSize.j0
      repeat' first
      | (with_reducible exact ih0 _ _ _ _)
      | (with_reducible exact ih1 _ _ _ _)
      | (with_reducible exact ih2 _ _ _ _)
      | (with_reducible exact ih3 _ _ _ _)
      | (with_reducible exact ih4 _ _ _)
      | (with_reducible exact chancellaw1_known.mono _)
      | (with_reducible exact text_Of.mono _ _)
      | (with_reducible exact LeO.refl _)
      | (with_reducible exact LeO.none _)
      | (with_reducible refine LeO.ite ?_ ?_)
      | (with_reducible refine LeO.bind ?_ (fun _ => ?_))
      | exact ih0 _ _ _ _
      | exact ih1 _ _ _ _
      | exact ih2 _ _ _ _
      | exact ih3 _ _ _ _
      | exact ih4 _ _ _
      | exact chancellaw1_known.mono _
      | exact text_Of.mono _ _
      | exact LeO.none _
      | refine LeO.ite ?_ ?_
      | refine LeO.bind ?_ (fun _ => ?_)
    · intro y0 y1 y2 y3
      unfold chancellaw1_TextSize.j1
      repeat' first
      | (with_reducible exact ih0 _ _ _ _)
      | (with_reducible exact ih1 _ _ _ _)
      | (with_reducible exact ih2 _ _ _ _)
      | (with_reducible exact ih3 _ _ _ _)
      | (with_reducible exact ih4 _ _ _)
      | (with_reducible exact chancellaw1_known.mono _)
      | (with_reducible exact text_Of.mono _ _)
      | (with_reducible exact LeO.refl _)
      | (with_reducible exact LeO.none _)
      | (with_reducible refine LeO.ite ?_ ?_)
      | (with_reducible refine LeO.bind ?_ (fun _ => ?_))
      | exact ih0 _ _ _ _
      | exact ih1 _ _ _ _
      | exact ih2 _ _ _ _
      | exact ih3 _ _ _ _
      | exact ih4 _ _ _
      | exact chancellaw1_known.mono _
      | exact text_Of.mono _ _
      | exact LeO.none _
      | refine LeO.ite ?_ ?_
      | refine LeO.bind ?_ (fun _ => ?_)
    · intro y0 y1 y2 y3
      unfold chancellaw1_TextSize.j2
      repeat' first
      | (with_reducible exact ih0 _ _ _ _)
      | (with_reducible exact ih1 _ _ _ _)
      | (with_reducible exact ih2 _ _ _ _)
      | (with_reducible exact ih3 _ _ _ _)
      | (with_reducible exact ih4 _ _ _)
      | (with_reducible exact chancellaw1_known.mono _)
      | (with_reducible exact text_Of.mono _ _)
      | (with_reducible exact LeO.refl _)
      | (with_reducible exact LeO.none _)
      | (with_reducible refine LeO.ite ?_ ?_)
      | (with_reducible refine LeO.bind ?_ (fun _ => ?_))
      | exact ih0 _ _ _ _
      | exact ih1 _ _ _ _
      | exact ih2 _ _ _ _
      | exact ih3 _ _ _ _
      | exact ih4 _ _ _
      | exact chancellaw1_known.mono _
      | exact text_Of.mono _ _
      | exact LeO.none _
      | refine LeO.ite ?_ ?_
      | refine LeO.bind ?_ (fun _ => ?_)
    · intro y0 y1 y2 y3
      unfold chancellaw1_TextSize.j3
      repeat' first
      | (with_reducible exact ih0 _ _ _ _)
      | (with_reducible exact ih1 _ _ _ _)
      | (with_reducible exact ih2 _ _ _ _)
      | (with_reducible exact ih3 _ _ _ _)
      | (with_reducible exact ih4 _ _ _)
      | (with_reducible exact chancellaw1_known.mono _)
      | (with_reducible exact text_Of.mono _ _)
      | (with_reducible exact LeO.refl _)
      | (with_reducible exact LeO.none _)
      | (with_reducible refine LeO.ite ?_ ?_)
      | (with_reducible refine LeO.bind ?_ (fun _ => ?_))
      | exact ih0 _ _ _ _
      | exact ih1 _ _ _ _
      | exact ih2 _ _ _ _
      | exact ih3 _ _ _ _
      | exact ih4 _ _ _
      | exact chancellaw1_known.mono _
      | exact text_Of.mono _ _
      | exact LeO.none _
      | refine LeO.ite ?_ ?_
      | refine LeO.bind ?_ (fun _ => ?_)
    · intro y0 y1 y2
      unfold chancellaw1_TextSize.j4
      repeat' first
      | (with_reducible exact ih0 _ _ _ _)
      | (with_reducible exact ih1 _ _ _ _)
      | (with_reducible exact ih2 _ _ _ _)
      | (with_reducible exact ih3 _ _ _ _)
      | (with_reducible exact ih4 _ _ _)
      | (with_reducible exact chancellaw1_known.mono _)
      | (with_reducible exact text_Of.mono _ _)
      | (with_reducible exact LeO.refl _)
      | (with_reducible exact LeO.none _)
      | (with_reducible refine LeO.ite ?_ ?_)
      | (with_reducible refine LeO.bind ?_ (fun _ => ?_))
      | exact ih0 _ _ _ _
      | exact ih1 _ _ _ _
      | exact ih2 _ _ _ _
      | exact ih3 _ _ _ _
      | exact ih4 _ _ _
      | exact chancellaw1_known.mono _
      | exact text_Of.mono _ _
      | exact LeO.none _
      | refine LeO.ite ?_ ?_
      | refine LeO.bind ?_ (fun _ => ?_)
theorem chancellaw1_TextSize.mono : ∀ a0 k, LeO (chancellaw1_TextSize.f k a0) (chancellaw1_TextSize.f (k + 1) a0) := by
  intro a0 k
  obtain ⟨ih0, ih1, ih2, ih3, ih4⟩ := chancellaw1_TextSize.mono_l k
  unfold chancellaw1_TextSize.f
  repeat' first
      | (with_reducible exact ih0 _ _ _ _)
      | (with_reducible exact ih1 _ _ _ _)
      | (with_reducible exact ih2 _ _ _ _)
      | (with_reducible exact ih3 _ _ _ _)
      | (with_reducible exact ih4 _ _ _)
      | (with_reducible exact chancellaw1_known.mono _)
      | (with_reducible exact text_Of.mono _ _)
      | (with_reducible exact LeO.refl _)
      | (with_reducible exact LeO.none _)
      | (with_reducible refine LeO.ite ?_ ?_)
      | (with_reducible refine LeO.bind ?_ (fun _ => ?_))
      | exact ih0 _ _ _ _
      | exact ih1 _ _ _ _
      | exact ih2 _ _ _ _
      | exact ih3 _ _ _ _
      | exact ih4 _ _ _
      | exact chancellaw1_known.mono _
      | exact text_Of.mono _ _
      | exact LeO.none _
      | refine LeO.ite ?_ ?_
      | refine LeO.bind ?_ (fun _ => ?_)
set_option maxHeartbeats 8000000 in
set_option maxRecDepth 100000 in
theorem chancellaw1_TextSize.calls (k : Nat) (a0 : Int) (r : Bool) (w : World) (h : chancellaw1_TextSize.f k a0 = some r) (hT : Tb w) :
    Calls Tryd.prog 8 #[.int .i64 a0] w fun e w' => e = .returned (.bool r) ∧ Below w.heap.size w w' := by
  have HB := Aside0.mk (Below.refl w.heap.size w)
  have H : ((chancellaw1_known.f k).bind fun t274 => (if t274 = true then ((chancellaw1_within.f a0 1117112).bind fun t275 => ((text_Of.f k (([wrap32 (wrap64 (t275 - 1000))] : List Int))).bind fun bt279 => (if (wrap64 (t275 - 1000)) < 0 then (chancellaw1_TextSize.j0 k (wrap64 (t275 - 1000)) bt279.1 bt279.2 true) else (if (wrap64 (t275 - 1000)) > 1114111 then (chancellaw1_TextSize.j0 k (wrap64 (t275 - 1000)) bt279.1 bt279.2 true) else (if (wrap64 (t275 - 1000)) ≥ 55296 then (chancellaw1_TextSize.j0 k (wrap64 (t275 - 1000)) bt279.1 bt279.2 (decide ((wrap64 (t275 - 1000)) ≤ 57343))) else (chancellaw1_TextSize.j0 k (wrap64 (t275 - 1000)) bt279.1 bt279.2 false)))))) else (some false))) = some r := h
  clear h
  have HT := Aside0.mk hT
  clear hT
  replace H := Option.bind_eq_some_iff.mp H
  obtain ⟨t274, A20, H⟩ := H
  replace H : (if t274 = true then ((chancellaw1_within.f a0 1117112).bind fun t275 => ((text_Of.f k (([wrap32 (wrap64 (t275 - 1000))] : List Int))).bind fun bt279 => (if (wrap64 (t275 - 1000)) < 0 then (chancellaw1_TextSize.j0 k (wrap64 (t275 - 1000)) bt279.1 bt279.2 true) else (if (wrap64 (t275 - 1000)) > 1114111 then (chancellaw1_TextSize.j0 k (wrap64 (t275 - 1000)) bt279.1 bt279.2 true) else (if (wrap64 (t275 - 1000)) ≥ 55296 then (chancellaw1_TextSize.j0 k (wrap64 (t275 - 1000)) bt279.1 bt279.2 (decide ((wrap64 (t275 - 1000)) ≤ 57343))) else (chancellaw1_TextSize.j0 k (wrap64 (t275 - 1000)) bt279.1 bt279.2 false)))))) else (some false)) = some r := H
  have A2 := Aside0.mk A20
  clear A20
  by_cases c3 : t274 = true
  · subst c3
    have H1 : ((chancellaw1_within.f a0 1117112).bind fun t275 => ((text_Of.f k (([wrap32 (wrap64 (t275 - 1000))] : List Int))).bind fun bt279 => (if (wrap64 (t275 - 1000)) < 0 then (chancellaw1_TextSize.j0 k (wrap64 (t275 - 1000)) bt279.1 bt279.2 true) else (if (wrap64 (t275 - 1000)) > 1114111 then (chancellaw1_TextSize.j0 k (wrap64 (t275 - 1000)) bt279.1 bt279.2 true) else (if (wrap64 (t275 - 1000)) ≥ 55296 then (chancellaw1_TextSize.j0 k (wrap64 (t275 - 1000)) bt279.1 bt279.2 (decide ((wrap64 (t275 - 1000)) ≤ 57343))) else (chancellaw1_TextSize.j0 k (wrap64 (t275 - 1000)) bt279.1 bt279.2 false)))))) = some r := by rw [if_pos rfl] at H; exact H
    clear H
    have H := H1
    clear H1
    replace H := Option.bind_eq_some_iff.mp H
    obtain ⟨t275, A40, H⟩ := H
    replace H : ((text_Of.f k (([wrap32 (wrap64 (t275 - 1000))] : List Int))).bind fun bt279 => (if (wrap64 (t275 - 1000)) < 0 then (chancellaw1_TextSize.j0 k (wrap64 (t275 - 1000)) bt279.1 bt279.2 true) else (if (wrap64 (t275 - 1000)) > 1114111 then (chancellaw1_TextSize.j0 k (wrap64 (t275 - 1000)) bt279.1 bt279.2 true) else (if (wrap64 (t275 - 1000)) ≥ 55296 then (chancellaw1_TextSize.j0 k (wrap64 (t275 - 1000)) bt279.1 bt279.2 (decide ((wrap64 (t275 - 1000)) ≤ 57343))) else (chancellaw1_TextSize.j0 k (wrap64 (t275 - 1000)) bt279.1 bt279.2 false))))) = some r := H
    have A4 := Aside0.mk A40
    clear A40
    obtain ⟨y276, hy276⟩ : ∃ y_ : List Int, y_ = (([wrap32 (wrap64 (t275 - 1000))] : List Int)) := ⟨_, rfl⟩
    replace H : ((text_Of.f k y276).bind fun bt279 => (if (wrap64 (t275 - 1000)) < 0 then (chancellaw1_TextSize.j0 k (wrap64 (t275 - 1000)) bt279.1 bt279.2 true) else (if (wrap64 (t275 - 1000)) > 1114111 then (chancellaw1_TextSize.j0 k (wrap64 (t275 - 1000)) bt279.1 bt279.2 true) else (if (wrap64 (t275 - 1000)) ≥ 55296 then (chancellaw1_TextSize.j0 k (wrap64 (t275 - 1000)) bt279.1 bt279.2 (decide ((wrap64 (t275 - 1000)) ≤ 57343))) else (chancellaw1_TextSize.j0 k (wrap64 (t275 - 1000)) bt279.1 bt279.2 false))))) = some r := by first | (rw [hy276]; with_reducible exact H) | (have H2_ := (Option.bind_some _ _).symm.trans H; rw [hy276]; with_reducible exact H2_) | (have H2_ := (Option.bind_some _ _).symm.trans H; with_reducible exact H2_) | with_reducible exact H | (rw [hy276]; exact H) | exact H
    have Ny276 := Aside0.mk hy276
    clear hy276
    replace H := Option.bind_eq_some_iff.mp H
    obtain ⟨⟨t279, t280⟩, A50, H⟩ := H
    replace H : (if (wrap64 (t275 - 1000)) < 0 then (chancellaw1_TextSize.j0 k (wrap64 (t275 - 1000)) t279 t280 true) else (if (wrap64 (t275 - 1000)) > 1114111 then (chancellaw1_TextSize.j0 k (wrap64 (t275 - 1000)) t279 t280 true) else (if (wrap64 (t275 - 1000)) ≥ 55296 then (chancellaw1_TextSize.j0 k (wrap64 (t275 - 1000)) t279 t280 (decide ((wrap64 (t275 - 1000)) ≤ 57343))) else (chancellaw1_TextSize.j0 k (wrap64 (t275 - 1000)) t279 t280 false)))) = some r := H
    have A5 := Aside0.mk A50
    clear A50
    have HC6 := Aside0.mk H
    clear H
    go_enter Tryd.func8, Tryd.ntmps8
    go_upto_region 5 with (first | ((with_reducible refine gate_callee (f := 12) rfl ?_); refine goesL_ (some 7) rfl rfl Tryd.func12 (by kernel_rfl) rfl #[] rfl (by (try simp only [List.map_toArray, List.map_cons, List.map_nil]); first | done | rfl | (simp only [List.length_drop, List.length_take]; rfl)) ?_; (with_reducible refine (chancellaw1_known.calls k  true _ A2.out ?side1).mono ?_); (case side1 => exact Tb.below HT.out (by repeat (first | (with_reducible first | exact HB.out | apply below_alloc | apply pw_below_drewN | apply below_drew1) | exact HB.out))); rintro e w7 ⟨rfl, hb⟩; refine ⟨_, rfl, ?_⟩; have n0_ := Aside0.mk (below_step (by repeat (first | (with_reducible first | exact HB.out | apply below_alloc | apply pw_below_drewN | apply below_drew1) | exact HB.out)) hb); clear HB; have HB := n0_; clear n0_; (try clear hb); (try clear hb2); (try clear hk); (try clear hi)) | ((with_reducible refine gate_callee (f := 17) rfl ?_); refine goesL_ (some 10) rfl rfl Tryd.func17 (by kernel_rfl) rfl #[.int .i64 a0, .int .i64 1117112] rfl (by (try simp only [List.map_toArray, List.map_cons, List.map_nil]); first | done | rfl | (simp only [List.length_drop, List.length_take]; rfl)) ?_; (with_reducible refine (chancellaw1_within.calls a0 1117112 t275 _ A4.out).mono ?_); rintro e w' ⟨rfl, ⟨nd, rfl⟩⟩; refine ⟨_, rfl, ?_⟩) | ((with_reducible refine gate_dst (N := 15) rfl ?_); (try (refine gate_guard (by rfl) ?_; dsimp only)); refine Kd.R_lit (Kd.int .i32) _ 21 ?hg (N := 15) ?hd (xs := ([wrap32 (wrap64 (t275 - 1000))] : List Int)) (inner := [.int .i32 (wrap32 (wrap64 (t275 - 1000)))]) (ok := fun _ => True) (okp := fun _ => True) ?hr ?hp (fun _ hk => hk) trivial (Below.refl _ _) (Nat.le_refl _) (by simp) ?_; (case hd => rfl); (case hg => rfl); (case hr => first | (go_simp; done) | (go_simp; rfl)); (case hp => exact (Reps.one (show Kd.M (Kd.int .i32) _ _ _ (wrap32 (wrap64 (t275 - 1000))) [.int .i32 (wrap32 (wrap64 (t275 - 1000)))] from rfl) (Reps.none _ _))); intro v277 w8 ho9 hb hg_ hnew_; clear hg_ hnew_; (first | rw [← Ny276.out] at ho9 | (simp only [Int.reduceToNat] at ho9; rw [← Ny276.out] at ho9)); have n0_ := Aside0.mk (Kd.R_lower ho9 (below_size (by repeat (first | (with_reducible first | exact HB.out | apply below_alloc | apply pw_below_drewN | apply below_drew1) | exact HB.out)))); have n1_ := Aside0.mk (below_step (by repeat (first | (with_reducible first | exact HB.out | apply below_alloc | apply pw_below_drewN | apply below_drew1) | exact HB.out)) hb); clear HB; have HO278 := n0_; have HB := n1_; clear n0_ n1_; clear hb ho9; obtain ⟨Ao10, co10, eo10⟩ := Kd.R_slice HO278.out; subst eo10) | ((with_reducible refine gate_callee (f := 24) rfl ?_); refine goesL_ (some 16) rfl rfl Tryd.func24 (by kernel_rfl) rfl #[.slice Ao10 y276.length co10] rfl (by (try simp only [List.map_toArray, List.map_cons, List.map_nil]); first | done | rfl | (simp only [List.length_drop, List.length_take]; rfl)) ?_; (with_reducible refine (text_Of.calls k _ _ y276 t279 t280 _ ?side1 ?side2 A5.out).mono ?_); (case side1 => repeat (first | exact (Kd.R_reads' HO278.out).2.2 | (with_reducible refine Kd.C_alloc ?_ _) | (with_reducible refine Kd.C_drewN ?_ _) | (with_reducible refine Kd.C_drew ?_))); (case side2 => exact (Kd.R_reads' HO278.out).2.1); rintro e w11 ⟨rfl, hb⟩; refine ⟨_, rfl, ?_⟩; have n0_ := Aside0.mk (Kd.R_below (by (with_reducible repeat (first | apply Kd.R_alloc | apply Kd.R_drewN | apply Kd.R_drew)); exact HO278.out) hb); have n1_ := Aside0.mk (below_step (by repeat (first | (with_reducible first | exact HB.out | apply below_alloc | apply pw_below_drewN | apply below_drew1) | exact HB.out)) hb); clear HO278; clear HB; have HO278 := n0_; have HB := n1_; clear n0_ n1_; (try clear hb); (try clear hb2); (try clear hk); (try clear hi)))
    (try simp only [Act.put, List.setIfInBounds_toArray, List.set_cons_zero, List.set_cons_succ])
    go_cut [32] (fun v32 wc => ∃ (kq : Nat) (x32_5 : Bool), v32 = .bool x32_5 ∧ Aside0 (chancellaw1_TextSize.j0 kq (wrap64 (t275 - 1000)) t279 t280 x32_5 = some r) ∧ Aside0 (kq ≤ k) ∧ Aside0 (Below w.heap.size w wc))
    case first =>
      have H := HC6.out
      clear HC6
      by_cases c12 : (wrap64 (t275 - 1000)) < 0
      · rw [if_pos c12] at H
        have c12b0 : decide ((wrap64 (t275 - 1000)) < 0) = true := decide_eq_true c12
        clear c12
        (first | rw [c12b0] | (simp only [i64_w, i32_w]; rw [c12b0]) | skip)
        have H' := Aside0.mk H
        clear H
        go_wp2
        go_meet
        case rel => exact ⟨_, (true), (by first | rfl | (simp; done) | (simp [*]; done)), H', ⟨by first | omega | exact Nat.le_refl _⟩, ⟨by repeat (first | (with_reducible first | exact HB.out | apply below_alloc | apply pw_below_drewN | apply below_drew1) | exact HB.out)⟩⟩
      · rw [if_neg c12] at H
        have c12b0 : decide ((wrap64 (t275 - 1000)) < 0) = false := decide_eq_false c12
        clear c12
        (first | rw [c12b0] | (simp only [i64_w, i32_w]; rw [c12b0]) | skip)
        by_cases c13 : (wrap64 (t275 - 1000)) > 1114111
        · rw [if_pos c13] at H
          have c13b0 : decide (1114111 < (wrap64 (t275 - 1000))) = true := decide_eq_true c13
          clear c13
          have H' := Aside0.mk H
          clear H
          go_wp2
          go_meet
          case rel => exact ⟨_, (true), (by first | rfl | (simp; done) | (simp [*]; done)), H', ⟨by first | omega | exact Nat.le_refl _⟩, ⟨by repeat (first | (with_reducible first | exact HB.out | apply below_alloc | apply pw_below_drewN | apply below_drew1) | exact HB.out)⟩⟩
        · rw [if_neg c13] at H
          have c13b0 : decide (1114111 < (wrap64 (t275 - 1000))) = false := decide_eq_false c13
          clear c13
          by_cases c14 : (wrap64 (t275 - 1000)) ≥ 55296
          · rw [if_pos c14] at H
            have c14b0 : decide (55296 ≤ (wrap64 (t275 - 1000))) = true := decide_eq_true c14
            clear c14
            have H' := Aside0.mk H
            clear H
            go_wp2
            go_meet
            case rel => exact ⟨_, (decide ((wrap64 (t275 - 1000)) ≤ 57343)), (by first | rfl | (simp; done) | (simp [*]; done)), H', ⟨by first | omega | exact Nat.le_refl _⟩, ⟨by repeat (first | (with_reducible first | exact HB.out | apply below_alloc | apply pw_below_drewN | apply below_drew1) | exact HB.out)⟩⟩
          · rw [if_neg c14] at H
            have c14b0 : decide (55296 ≤ (wrap64 (t275 - 1000))) = false := decide_eq_false c14
            clear c14
            have H' := Aside0.mk H
            clear H
            go_wp2
            go_meet
            case rel => exact ⟨_, (false), (by first | rfl | (simp; done) | (simp [*]; done)), H', ⟨by first | omega | exact Nat.le_refl _⟩, ⟨by repeat (first | (with_reducible first | exact HB.out | apply below_alloc | apply pw_below_drewN | apply below_drew1) | exact HB.out)⟩⟩
    case rest =>
      clear HC6
      try clear c1
      try clear c2
      try clear p2
      try clear c3
      try clear p3
      try clear p6
      try clear c8
      try clear c12
      try clear c12b0
      try clear c13
      try clear c13b0
      try clear c14
      try clear c14b0
      obtain ⟨kq, x32_5, rfl, HA, HJ5, HB⟩ := hcut
      cases kq with
      | zero => exact absurd HA.out (by simp [chancellaw1_TextSize.j0])
      | succ kj5 =>
        have H := HA.out
        clear HA
        simp only [chancellaw1_TextSize.j0] at H
        by_cases c15 : x32_5 = true
        · subst c15
          have H1 : (if t280 = 11 then (some (t279.toList == ([] : List UInt8))) else (some false)) = some r := by rw [if_pos rfl] at H; exact H
          clear H
          have H := H1
          clear H1
          by_cases c16 : t280 = 11
          · rw [if_pos c16] at H
            have c16b0 : (t280 == 11) = true := beq_iff_eq.mpr c16
            have c16b1 : (t280 != 11) = false := bne_eq_false_iff_eq.mpr c16
            clear c16
            obtain rfl := Option.some.inj H
            go_wp2
            go_ret
            exact ⟨by first | rfl | (simp [errW_none, errW_some] <;> rfl) | (simp [*, errW_none, errW_some] <;> rfl), by repeat (first | (with_reducible first | exact HB.out | apply below_alloc | apply pw_below_drewN | apply below_drew1) | exact HB.out)⟩
          · rw [if_neg c16] at H
            have c16b0 : (t280 == 11) = false := beq_eq_false_iff_ne.mpr c16
            have c16b1 : (t280 != 11) = true := bne_iff_ne.mpr c16
            obtain rfl := Option.some.inj H
            go_wp2
            go_ret
            exact ⟨by first | rfl | (simp [errW_none, errW_some] <;> rfl) | (simp [*, errW_none, errW_some] <;> rfl), by repeat (first | (with_reducible first | exact HB.out | apply below_alloc | apply pw_below_drewN | apply below_drew1) | exact HB.out)⟩
        · replace c15 := Bool.eq_false_iff.mpr c15
          subst c15
          have H1 : (if (wrap64 (t275 - 1000)) ≥ 128 then (chancellaw1_TextSize.j1 kj5 (wrap64 (t275 - 1000)) t279 t280 2) else (chancellaw1_TextSize.j1 kj5 (wrap64 (t275 - 1000)) t279 t280 1)) = some r := by rw [if_neg (show ¬ (false = true) by decide)] at H; exact H
          clear H
          have H := H1
          clear H1
          have HC17 := Aside0.mk H
          clear H
          go_upto_if 40 with (fail)
          go_cut [5] (fun v5 wc => ∃ (kq : Nat) (x5_16 : Int), v5 = .int .i64 x5_16 ∧ Aside0 (chancellaw1_TextSize.j1 kq (wrap64 (t275 - 1000)) t279 t280 x5_16 = some r) ∧ Aside0 (kq ≤ kj5) ∧ Aside0 (Below w.heap.size w wc))
          case first =>
            have H := HC17.out
            clear HC17
            by_cases c18 : (wrap64 (t275 - 1000)) ≥ 128
            · rw [if_pos c18] at H
              have c18b0 : decide (128 ≤ (wrap64 (t275 - 1000))) = true := decide_eq_true c18
              clear c18
              (first | rw [c18b0] | (simp only [i64_w, i32_w]; rw [c18b0]) | skip)
              have H' := Aside0.mk H
              clear H
              go_wp2
              go_meet
              case rel => exact ⟨_, (2), (by first | rfl | (simp; done) | (simp [*]; done)), H', ⟨by have := HJ5.out; first | omega | exact Nat.le_refl _⟩, ⟨by repeat (first | (with_reducible first | exact HB.out | apply below_alloc | apply pw_below_drewN | apply below_drew1) | exact HB.out)⟩⟩
            · rw [if_neg c18] at H
              have c18b0 : decide (128 ≤ (wrap64 (t275 - 1000))) = false := decide_eq_false c18
              clear c18
              (first | rw [c18b0] | (simp only [i64_w, i32_w]; rw [c18b0]) | skip)
              have H' := Aside0.mk H
              clear H
              go_wp2
              go_meet
              case rel => exact ⟨_, (1), (by first | rfl | (simp; done) | (simp [*]; done)), H', ⟨by have := HJ5.out; first | omega | exact Nat.le_refl _⟩, ⟨by repeat (first | (with_reducible first | exact HB.out | apply below_alloc | apply pw_below_drewN | apply below_drew1) | exact HB.out)⟩⟩
          case rest =>
            clear HC17
            try clear c1
            try clear c2
            try clear p2
            try clear c3
            try clear p3
            try clear p6
            try clear c8
            try clear c12
            try clear c12b0
            try clear c13
            try clear c13b0
            try clear c14
            try clear c14b0
            try clear c15
            try clear c16
            try clear c16b0
            try clear c16b1
            try clear c17
            try clear c18
            try clear c18b0
            try clear p2
            try clear p3
            try clear p6
            obtain ⟨kq, x5_16, rfl, HA, HJ16, HB⟩ := hcut
            cases kq with
            | zero => exact absurd HA.out (by simp [chancellaw1_TextSize.j1])
            | succ kj16 =>
              have H := HA.out
              clear HA
              simp only [chancellaw1_TextSize.j1] at H
              have HC19 := Aside0.mk H
              clear H
              go_upto_if 42 with (fail)
              go_cut [5] (fun v5 wc => ∃ (kq : Nat) (x5_18 : Int), v5 = .int .i64 x5_18 ∧ Aside0 (chancellaw1_TextSize.j2 kq (wrap64 (t275 - 1000)) t279 t280 x5_18 = some r) ∧ Aside0 (kq ≤ kj16) ∧ Aside0 (Below w.heap.size w wc))
              case first =>
                have H := HC19.out
                clear HC19
                by_cases c20 : (wrap64 (t275 - 1000)) ≥ 2048
                · rw [if_pos c20] at H
                  have c20b0 : decide (2048 ≤ (wrap64 (t275 - 1000))) = true := decide_eq_true c20
                  clear c20
                  (first | rw [c20b0] | (simp only [i64_w, i32_w]; rw [c20b0]) | skip)
                  have H' := Aside0.mk H
                  clear H
                  go_wp2
                  go_meet
                  case rel => exact ⟨_, (3), (by first | rfl | (simp; done) | (simp [*]; done)), H', ⟨by have := HJ5.out; have := HJ16.out; first | omega | exact Nat.le_refl _⟩, ⟨by repeat (first | (with_reducible first | exact HB.out | apply below_alloc | apply pw_below_drewN | apply below_drew1) | exact HB.out)⟩⟩
                · rw [if_neg c20] at H
                  have c20b0 : decide (2048 ≤ (wrap64 (t275 - 1000))) = false := decide_eq_false c20
                  clear c20
                  (first | rw [c20b0] | (simp only [i64_w, i32_w]; rw [c20b0]) | skip)
                  have H' := Aside0.mk H
                  clear H
                  go_wp2
                  go_meet
                  case rel => exact ⟨_, (x5_16), (by first | rfl | (simp; done) | (simp [*]; done)), H', ⟨by have := HJ5.out; have := HJ16.out; first | omega | exact Nat.le_refl _⟩, ⟨by repeat (first | (with_reducible first | exact HB.out | apply below_alloc | apply pw_below_drewN | apply below_drew1) | exact HB.out)⟩⟩
              case rest =>
                clear HC19
                try clear c1
                try clear c2
                try clear p2
                try clear c3
                try clear p3
                try clear p6
                try clear c8
                try clear c12
                try clear c12b0
                try clear c13
                try clear c13b0
                try clear c14
                try clear c14b0
                try clear c15
                try clear c16
                try clear c16b0
                try clear c16b1
                try clear c17
                try clear c18
                try clear c18b0
                try clear c20
                try clear c20b0
                try clear p2
                try clear p3
                try clear p6
                obtain ⟨kq, x5_18, rfl, HA, HJ18, HB⟩ := hcut
                cases kq with
                | zero => exact absurd HA.out (by simp [chancellaw1_TextSize.j2])
                | succ kj18 =>
                  have H := HA.out
                  clear HA
                  simp only [chancellaw1_TextSize.j2] at H
                  have HC21 := Aside0.mk H
                  clear H
                  go_upto_if 44 with (fail)
                  go_cut [5] (fun v5 wc => ∃ (kq : Nat) (x5_20 : Int), v5 = .int .i64 x5_20 ∧ Aside0 (chancellaw1_TextSize.j3 kq (wrap64 (t275 - 1000)) t279 t280 x5_20 = some r) ∧ Aside0 (kq ≤ kj18) ∧ Aside0 (Below w.heap.size w wc))
                  case first =>
                    have H := HC21.out
                    clear HC21
                    by_cases c22 : (wrap64 (t275 - 1000)) ≥ 65536
                    · rw [if_pos c22] at H
                      have c22b0 : decide (65536 ≤ (wrap64 (t275 - 1000))) = true := decide_eq_true c22
                      clear c22
                      (first | rw [c22b0] | (simp only [i64_w, i32_w]; rw [c22b0]) | skip)
                      have H' := Aside0.mk H
                      clear H
                      go_wp2
                      go_meet
                      case rel => exact ⟨_, (4), (by first | rfl | (simp; done) | (simp [*]; done)), H', ⟨by have := HJ5.out; have := HJ16.out; have := HJ18.out; first | omega | exact Nat.le_refl _⟩, ⟨by repeat (first | (with_reducible first | exact HB.out | apply below_alloc | apply pw_below_drewN | apply below_drew1) | exact HB.out)⟩⟩
                    · rw [if_neg c22] at H
                      have c22b0 : decide (65536 ≤ (wrap64 (t275 - 1000))) = false := decide_eq_false c22
                      clear c22
                      (first | rw [c22b0] | (simp only [i64_w, i32_w]; rw [c22b0]) | skip)
                      have H' := Aside0.mk H
                      clear H
                      go_wp2
                      go_meet
                      case rel => exact ⟨_, (x5_18), (by first | rfl | (simp; done) | (simp [*]; done)), H', ⟨by have := HJ5.out; have := HJ16.out; have := HJ18.out; first | omega | exact Nat.le_refl _⟩, ⟨by repeat (first | (with_reducible first | exact HB.out | apply below_alloc | apply pw_below_drewN | apply below_drew1) | exact HB.out)⟩⟩
                  case rest =>
                    clear HC21
                    try clear c1
                    try clear c2
                    try clear p2
                    try clear c3
                    try clear p3
                    try clear p6
                    try clear c8
                    try clear c12
                    try clear c12b0
                    try clear c13
                    try clear c13b0
                    try clear c14
                    try clear c14b0
                    try clear c15
                    try clear c16
                    try clear c16b0
                    try clear c16b1
                    try clear c17
                    try clear c18
                    try clear c18b0
                    try clear c20
                    try clear c20b0
                    try clear c22
                    try clear c22b0
                    try clear p2
                    try clear p3
                    try clear p6
                    obtain ⟨kq, x5_20, rfl, HA, HJ20, HB⟩ := hcut
                    cases kq with
                    | zero => exact absurd HA.out (by simp [chancellaw1_TextSize.j3])
                    | succ kj20 =>
                      have H := HA.out
                      clear HA
                      simp only [chancellaw1_TextSize.j3] at H
                      replace H := Option.bind_eq_some_iff.mp H
                      obtain ⟨t281, A230, H⟩ := H
                      replace H : (if t280 = 0 then (if (t279.size : Int) = x5_20 then (if (t281.length : Int) = 1 then (if 0 < (t281.length : Int) then (chancellaw1_TextSize.j4 kj20 t279 x5_20 ((rd t281 0) != (wrap32 ((wrap64 (t275 - 1000)))))) else (none)) else (chancellaw1_TextSize.j4 kj20 t279 x5_20 true)) else (chancellaw1_TextSize.j4 kj20 t279 x5_20 true)) else (chancellaw1_TextSize.j4 kj20 t279 x5_20 true)) = some r := H
                      have A23 := Aside0.mk A230
                      clear A230
                      have HC24 := Aside0.mk H
                      clear H
                      go_upto_region 15 with (first | ((with_reducible refine gate_callee (f := 19) rfl ?_); refine goesL_ (some 46) rfl rfl Tryd.func19 (by kernel_rfl) rfl #[.string t279] rfl (by (try simp only [List.map_toArray, List.map_cons, List.map_nil]); first | done | rfl | (simp only [List.length_drop, List.length_take]; rfl)) ?_; (with_reducible refine (text_Runes.calls t279 t281 _ A23.out).mono ?_); rintro e w25 ⟨v282, rfl, ho0, hb⟩; refine ⟨_, rfl, ?_⟩; have n0_ := Aside0.mk (Kd.R_lower ho0 (below_size (by repeat (first | (with_reducible first | exact HB.out | apply below_alloc | apply pw_below_drewN | apply below_drew1) | exact HB.out)))); have n1_ := Aside0.mk (below_step (by repeat (first | (with_reducible first | exact HB.out | apply below_alloc | apply pw_below_drewN | apply below_drew1) | exact HB.out)) hb); clear HB; have HO283 := n0_; have HB := n1_; clear n0_ n1_; (try clear hb); (try clear hb2); (try clear hk); (try clear hi); (try clear ho0)))
                      (try simp only [Act.put, List.setIfInBounds_toArray, List.set_cons_zero, List.set_cons_succ])
                      go_cut [67] (fun v67 wc => ∃ (kq : Nat) (x67_23 : Bool), v67 = .bool x67_23 ∧ Aside0 (chancellaw1_TextSize.j4 kq t279 x5_20 x67_23 = some r) ∧ Aside0 (kq ≤ kj20) ∧ Aside0 (Below w.heap.size w wc))
                      case first =>
                        have H := HC24.out
                        clear HC24
                        by_cases c26 : t280 = 0
                        · rw [if_pos c26] at H
                          have c26b0 : (t280 == 0) = true := beq_iff_eq.mpr c26
                          have c26b1 : (t280 != 0) = false := bne_eq_false_iff_eq.mpr c26
                          clear c26
                          (first | rw [c26b0] | (simp only [i64_w, i32_w]; rw [c26b0]) | skip)
                          by_cases c27 : (t279.size : Int) = x5_20
                          · rw [if_pos c27] at H
                            have c27b0 : ((t279.size : Int) == x5_20) = true := beq_iff_eq.mpr c27
                            have c27b1 : ((t279.size : Int) != x5_20) = false := bne_eq_false_iff_eq.mpr c27
                            clear c27
                            by_cases c28 : (t281.length : Int) = 1
                            · rw [if_pos c28] at H
                              have c28b0 : ((t281.length : Int) == 1) = true := beq_iff_eq.mpr c28
                              have c28b1 : ((t281.length : Int) != 1) = false := bne_eq_false_iff_eq.mpr c28
                              clear c28
                              by_cases c29 : 0 < (t281.length : Int)
                              · rw [if_pos c29] at H
                                have c29b0 : decide (0 < (t281.length : Int)) = true := decide_eq_true c29
                                have c29b1 : decide (0 < t281.length) = true := decide_eq_true (by omega)
                                clear c29
                                have H' := Aside0.mk H
                                clear H
                                obtain ⟨Ao30, co30, eo30⟩ := Kd.R_slice HO283.out
                                subst eo30
                                have p284 : 0 ≤ (0 : Int) := (by omega)
                                have q284 : 0 < (t281.length : Int) := of_decide_eq_true (by first | (with_reducible assumption) | assumption)
                                obtain ⟨ad284, e284, hx284_0⟩ := Kd.at_int (Kd.R_reads' HO283.out).2.2 0 p284 q284
                                cases e284
                                have qi284 : (0 < t281.length) = True := eq_true (by omega)
                                (try rw [show ((0 : Int)).toNat = 0 from rfl] at hx284_0)
                                (try rw [Addr.add_zero'] at hx284_0)
                                replace p284 := eq_true p284
                                replace q284 := eq_true q284
                                go_wp2
                                go_meet
                                case rel => exact ⟨_, (((rd t281 0) != (wrap32 ((wrap64 (t275 - 1000)))))), (by first | rfl | (simp; done) | (simp [*]; done)), H', ⟨by have := HJ5.out; have := HJ16.out; have := HJ18.out; have := HJ20.out; first | omega | exact Nat.le_refl _⟩, ⟨by repeat (first | (with_reducible first | exact HB.out | apply below_alloc | apply pw_below_drewN | apply below_drew1) | exact HB.out)⟩⟩
                              · rw [if_neg c29] at H
                                exact absurd H (by simp)
                            · rw [if_neg c28] at H
                              have c28b0 : ((t281.length : Int) == 1) = false := beq_eq_false_iff_ne.mpr c28
                              have c28b1 : ((t281.length : Int) != 1) = true := bne_iff_ne.mpr c28
                              have H' := Aside0.mk H
                              clear H
                              obtain ⟨Ao31, co31, eo31⟩ := Kd.R_slice HO283.out
                              subst eo31
                              go_wp2
                              go_meet
                              case rel => exact ⟨_, (true), (by first | rfl | (simp; done) | (simp [*]; done)), H', ⟨by have := HJ5.out; have := HJ16.out; have := HJ18.out; have := HJ20.out; first | omega | exact Nat.le_refl _⟩, ⟨by repeat (first | (with_reducible first | exact HB.out | apply below_alloc | apply pw_below_drewN | apply below_drew1) | exact HB.out)⟩⟩
                          · rw [if_neg c27] at H
                            have c27b0 : ((t279.size : Int) == x5_20) = false := beq_eq_false_iff_ne.mpr c27
                            have c27b1 : ((t279.size : Int) != x5_20) = true := bne_iff_ne.mpr c27
                            have H' := Aside0.mk H
                            clear H
                            go_wp2
                            go_meet
                            case rel => exact ⟨_, (true), (by first | rfl | (simp; done) | (simp [*]; done)), H', ⟨by have := HJ5.out; have := HJ16.out; have := HJ18.out; have := HJ20.out; first | omega | exact Nat.le_refl _⟩, ⟨by repeat (first | (with_reducible first | exact HB.out | apply below_alloc | apply pw_below_drewN | apply below_drew1) | exact HB.out)⟩⟩
                        · rw [if_neg c26] at H
                          have c26b0 : (t280 == 0) = false := beq_eq_false_iff_ne.mpr c26
                          have c26b1 : (t280 != 0) = true := bne_iff_ne.mpr c26
                          (first | rw [c26b0] | (simp only [i64_w, i32_w]; rw [c26b0]) | skip)
                          have H' := Aside0.mk H
                          clear H
                          go_wp2
                          go_meet
                          case rel => exact ⟨_, (true), (by first | rfl | (simp; done) | (simp [*]; done)), H', ⟨by have := HJ5.out; have := HJ16.out; have := HJ18.out; have := HJ20.out; first | omega | exact Nat.le_refl _⟩, ⟨by repeat (first | (with_reducible first | exact HB.out | apply below_alloc | apply pw_below_drewN | apply below_drew1) | exact HB.out)⟩⟩
                      case rest =>
                        clear HC24
                        try clear c1
                        try clear c2
                        try clear p2
                        try clear q2
                        try clear hx2
                        try clear qi2
                        try clear c3
                        try clear p3
                        try clear p6
                        try clear c8
                        try clear c12
                        try clear c12b0
                        try clear c13
                        try clear c13b0
                        try clear c14
                        try clear c14b0
                        try clear c15
                        try clear c16
                        try clear c16b0
                        try clear c16b1
                        try clear c17
                        try clear c18
                        try clear c18b0
                        try clear c19
                        try clear c20
                        try clear c20b0
                        try clear c22
                        try clear c22b0
                        try clear c24
                        try clear c26
                        try clear c26b0
                        try clear c26b1
                        try clear c27
                        try clear c27b0
                        try clear c27b1
                        try clear c28
                        try clear c28b0
                        try clear c28b1
                        try clear p28
                        try clear q28
                        try clear hx28
                        try clear qi28
                        try clear c29
                        try clear c29b0
                        try clear c29b1
                        try clear hx284_0
                        try clear p2
                        try clear p284
                        try clear p3
                        try clear p6
                        try clear q284
                        obtain ⟨kq, x67_23, rfl, HA, HJ23, HB⟩ := hcut
                        cases kq with
                        | zero => exact absurd HA.out (by simp [chancellaw1_TextSize.j4])
                        | succ kj23 =>
                          have H := HA.out
                          clear HA
                          simp only [chancellaw1_TextSize.j4] at H
                          by_cases c32 : x67_23 = true
                          · subst c32
                            have H1 : (some false) = some r := by rw [if_pos rfl] at H; exact H
                            clear H
                            have H := H1
                            clear H1
                            obtain rfl := Option.some.inj H
                            go_wp2
                            go_ret
                            exact ⟨by first | rfl | (simp [errW_none, errW_some] <;> rfl) | (simp [*, errW_none, errW_some] <;> rfl), by repeat (first | (with_reducible first | exact HB.out | apply below_alloc | apply pw_below_drewN | apply below_drew1) | exact HB.out)⟩
                          · replace c32 := Bool.eq_false_iff.mpr c32
                            subst c32
                            have H1 : (if x5_20 = 1 then (some true) else (if 1 ≤ (t279.size : Int) then ((text_Check.f (t279.extract 1 t279.size)).bind fun t285 => (if t285 = 11 then (if 0 ≤ (wrap64 (x5_20 - 1)) then (if (wrap64 (x5_20 - 1)) ≤ (t279.size : Int) then ((text_Check.f (t279.extract 0 ((wrap64 (x5_20 - 1)) : Int).toNat)).bind fun t286 => (some (t286 == 11))) else (none)) else (none)) else (some false))) else (none))) = some r := by rw [if_neg (show ¬ (false = true) by decide)] at H; exact H
                            clear H
                            have H := H1
                            clear H1
                            by_cases c33 : x5_20 = 1
                            · rw [if_pos c33] at H
                              have c33b0 : (x5_20 == 1) = true := beq_iff_eq.mpr c33
                              have c33b1 : (x5_20 != 1) = false := bne_eq_false_iff_eq.mpr c33
                              clear c33
                              obtain rfl := Option.some.inj H
                              go_wp2
                              go_ret
                              exact ⟨by first | rfl | (simp [errW_none, errW_some] <;> rfl) | (simp [*, errW_none, errW_some] <;> rfl), by repeat (first | (with_reducible first | exact HB.out | apply below_alloc | apply pw_below_drewN | apply below_drew1) | exact HB.out)⟩
                            · rw [if_neg c33] at H
                              have c33b0 : (x5_20 == 1) = false := beq_eq_false_iff_ne.mpr c33
                              have c33b1 : (x5_20 != 1) = true := bne_iff_ne.mpr c33
                              by_cases c34 : 1 ≤ (t279.size : Int)
                              · rw [if_pos c34] at H
                                have c34b0 := eq_true c34
                                have c34b1 : decide (1 ≤ (t279.size : Int)) = true := decide_eq_true c34
                                clear c34
                                replace H := Option.bind_eq_some_iff.mp H
                                obtain ⟨t285, A350, H⟩ := H
                                replace H : (if t285 = 11 then (if 0 ≤ (wrap64 (x5_20 - 1)) then (if (wrap64 (x5_20 - 1)) ≤ (t279.size : Int) then ((text_Check.f (t279.extract 0 ((wrap64 (x5_20 - 1)) : Int).toNat)).bind fun t286 => (some (t286 == 11))) else (none)) else (none)) else (some false)) = some r := H
                                have A35 := Aside0.mk A350
                                clear A350
                                by_cases c36 : t285 = 11
                                · rw [if_pos c36] at H
                                  have c36b0 : (t285 == 11) = true := beq_iff_eq.mpr c36
                                  have c36b1 : (t285 != 11) = false := bne_eq_false_iff_eq.mpr c36
                                  clear c36
                                  obtain ⟨ji37, hji37⟩ : ∃ j_ : Int, (wrap64 (x5_20 - 1)) = j_ := ⟨_, rfl⟩
                                  replace H : (if 0 ≤ (ji37) then (if (ji37) ≤ (t279.size : Int) then ((text_Check.f (t279.extract 0 ((ji37) : Int).toNat)).bind fun t286 => (some (t286 == 11))) else (none)) else (none)) = some r := by first | (rw [hji37] at H; exact H) | (simp only [hji37] at H ⊢; exact H)
                                  (try rw [hji37] at A35)
                                  have hji37w : (IntKind.i64.wrap (x5_20 - 1)) = ji37 := (i64_w _).trans hji37
                                  by_cases c38 : 0 ≤ (ji37)
                                  · rw [if_pos c38] at H
                                    have c38b0 := eq_true c38
                                    have c38b1 : decide (0 ≤ (ji37)) = true := decide_eq_true c38
                                    clear c38
                                    by_cases c39 : (ji37) ≤ (t279.size : Int)
                                    · rw [if_pos c39] at H
                                      have c39b0 := eq_true c39
                                      have c39b1 : decide ((ji37) ≤ (t279.size : Int)) = true := decide_eq_true c39
                                      clear c39
                                      replace H := Option.bind_eq_some_iff.mp H
                                      obtain ⟨t286, A400, H⟩ := H
                                      replace H : (some (t286 == 11)) = some r := H
                                      have A40 := Aside0.mk A400
                                      clear A400
                                      obtain rfl := Option.some.inj H
                                      go_wp2_with (first | (go_at_call 21; (with_reducible refine (text_Check.calls (t279.extract 1 t279.size) t285 _ A35.out ?side1).mono ?_); (case side1 => exact Tb.below HT.out (by repeat (first | (with_reducible first | exact HB.out | apply below_alloc | apply pw_below_drewN | apply below_drew1) | exact HB.out))); rintro e w41 ⟨rfl, hb⟩; have n0_ := Aside0.mk (below_step (by repeat (first | (with_reducible first | exact HB.out | apply below_alloc | apply pw_below_drewN | apply below_drew1) | exact HB.out)) hb); clear HB; have HB := n0_; clear n0_; (try clear hb); (try clear hb2); (try clear hk); (try clear hi)) | (go_at_call 21; (with_reducible refine (text_Check.calls (t279.extract 0 ((ji37) : Int).toNat) t286 _ A40.out ?side1).mono ?_); (case side1 => exact Tb.below HT.out (by repeat (first | (with_reducible first | exact HB.out | apply below_alloc | apply pw_below_drewN | apply below_drew1) | exact HB.out))); rintro e w42 ⟨rfl, hb⟩; have n0_ := Aside0.mk (below_step (by repeat (first | (with_reducible first | exact HB.out | apply below_alloc | apply pw_below_drewN | apply below_drew1) | exact HB.out)) hb); clear HB; have HB := n0_; clear n0_; (try clear hb); (try clear hb2); (try clear hk); (try clear hi)))
                                      go_ret
                                      exact ⟨by first | rfl | (simp [errW_none, errW_some] <;> rfl) | (simp only [← hji37]; first | rfl | (simp [errW_none, errW_some] <;> rfl)) | (simp [*, errW_none, errW_some] <;> rfl), by repeat (first | (with_reducible first | exact HB.out | apply below_alloc | apply pw_below_drewN | apply below_drew1) | exact HB.out)⟩
                                    · rw [if_neg c39] at H
                                      exact absurd H (by simp)
                                  · rw [if_neg c38] at H
                                    exact absurd H (by simp)
                                · rw [if_neg c36] at H
                                  have c36b0 : (t285 == 11) = false := beq_eq_false_iff_ne.mpr c36
                                  have c36b1 : (t285 != 11) = true := bne_iff_ne.mpr c36
                                  obtain rfl := Option.some.inj H
                                  go_wp2_with (first | (go_at_call 21; (with_reducible refine (text_Check.calls (t279.extract 1 t279.size) t285 _ A35.out ?side1).mono ?_); (case side1 => exact Tb.below HT.out (by repeat (first | (with_reducible first | exact HB.out | apply below_alloc | apply pw_below_drewN | apply below_drew1) | exact HB.out))); rintro e w43 ⟨rfl, hb⟩; have n0_ := Aside0.mk (below_step (by repeat (first | (with_reducible first | exact HB.out | apply below_alloc | apply pw_below_drewN | apply below_drew1) | exact HB.out)) hb); clear HB; have HB := n0_; clear n0_; (try clear hb); (try clear hb2); (try clear hk); (try clear hi)))
                                  go_ret
                                  exact ⟨by first | rfl | (simp [errW_none, errW_some] <;> rfl) | (simp [*, errW_none, errW_some] <;> rfl), by repeat (first | (with_reducible first | exact HB.out | apply below_alloc | apply pw_below_drewN | apply below_drew1) | exact HB.out)⟩
                              · rw [if_neg c34] at H
                                exact absurd H (by simp)
  · replace c3 := Bool.eq_false_iff.mpr c3
    subst c3
    have H1 : (some false) = some r := by rw [if_neg (show ¬ (false = true) by decide)] at H; exact H
    clear H
    have H := H1
    clear H1
    obtain rfl := Option.some.inj H
    go_enter Tryd.func8, Tryd.ntmps8
    go_wp2_with (first | ((with_reducible refine gate_callee (f := 12) rfl ?_); refine goesL_ (some 7) rfl rfl Tryd.func12 (by kernel_rfl) rfl #[] rfl (by (try simp only [List.map_toArray, List.map_cons, List.map_nil]); first | done | rfl | (simp only [List.length_drop, List.length_take]; rfl)) ?_; (with_reducible refine (chancellaw1_known.calls k  false _ A2.out ?side1).mono ?_); (case side1 => exact Tb.below HT.out (by repeat (first | (with_reducible first | exact HB.out | apply below_alloc | apply pw_below_drewN | apply below_drew1) | exact HB.out))); rintro e w44 ⟨rfl, hb⟩; refine ⟨_, rfl, ?_⟩; have n0_ := Aside0.mk (below_step (by repeat (first | (with_reducible first | exact HB.out | apply below_alloc | apply pw_below_drewN | apply below_drew1) | exact HB.out)) hb); clear HB; have HB := n0_; clear n0_; (try clear hb); (try clear hb2); (try clear hk); (try clear hi)))
    go_ret
    exact ⟨by first | rfl | (simp [errW_none, errW_some] <;> rfl) | (simp [*, errW_none, errW_some] <;> rfl), by repeat (first | (with_reducible first | exact HB.out | apply below_alloc | apply pw_below_drewN | apply below_drew1) | exact HB.out)⟩

/-- THE ONE PURE STATEMENT of chancellaw1_TextSize: yours. -/
def chancellaw1_TextSize.Pure : Prop := ∀ (a0 : Int), (Lit.int .i64 a0).wf = true → ∃ k, chancellaw1_TextSize.f k a0 = some true
theorem chancellaw1_TextSize.walk (P : chancellaw1_TextSize.Pure) (a0 : Int) (w : World) (w0 : (Lit.int .i64 a0).wf = true) (hT : Tb w) :
    Calls Tryd.prog 8 #[.int .i64 a0] w fun e w' => e = .returned (.bool true) ∧ Below w.heap.size w w' := by
  obtain ⟨k, h⟩ := P a0 w0
  refine (chancellaw1_TextSize.calls k a0 true w h hT).mono ?_
  rintro e w' ⟨rfl, hd⟩
  exact ⟨rfl, hd⟩

end Go.Proofs.YtapccgkkcgggiaaDoor.GB
