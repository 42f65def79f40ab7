-- Written by wip/tools/gprint.py over the kit's printer.
import Derived.Test.YtelibndkkokadaaGB0
import Derived.Test.YtelibndkkokadaaSqz
namespace Go.Proofs.Ytelibndkkokadaa.GB
open Go.RowKit Go.Proofs.YtelibndkkokadaaW.PrintWords Go.Proofs.YtelibndkkokadaaW.PrintLast Go.Proofs.Ytelibndkkokadaa.HandV Go.Proofs.YtelibndkkokadaaW.PrintMore
attribute [local go_sem] max2_int min2_int max_two min_two max_three min_three max_four min_four   -- for this text's walks alone
set_option linter.unusedVariables false
set_option linter.unusedSimpArgs false

/-! ### chancellaw5_within: function 56 -/
def chancellaw5_within.f (a0 : Int) (a1 : Int) : Option (Int) := if a1 = 0 then (none) else (if (Int.tmod a0 a1) < 0 then (some (wrap64 ((Int.tmod a0 a1) + a1))) else (some (Int.tmod a0 a1)))
set_option maxHeartbeats 8000000 in
set_option maxRecDepth 100000 in
theorem chancellaw5_within.calls (a0 : Int) (a1 : Int) (r : Int) (w : World) (h : chancellaw5_within.f a0 a1 = some r) :
  Calls Try.prog 56 #[.int .i64 a0, .int .i64 a1] w fun e w' => e = .returned (.int .i64 r) ∧ Drawn0 w w' := by
 have H : (if a1 = 0 then (none) else (if (Int.tmod a0 a1) < 0 then (some (wrap64 ((Int.tmod a0 a1) + a1))) else (some (Int.tmod a0 a1)))) = some r := h
 clear h
 by_cases c3 : a1 = 0
 ·
  rw [if_pos c3] at H
  exact absurd H (by simp)
 ·
  rw [if_neg c3] at H
  have c3b0 : (a1 == 0) = false := beq_eq_false_iff_ne.mpr c3
  have c3b1 : (a1 != 0) = true := bne_iff_ne.mpr c3
  by_cases c4 : (Int.tmod a0 a1) < 0
  ·
   rw [if_pos c4] at H
   have c4b0 : decide ((Int.tmod a0 a1) < 0) = true := decide_eq_true c4
   clear c4
   obtain rfl := Option.some.inj H
   go_enter Try.func56, Try.ntmps56
   go_wp2
   go_ret
   exact ⟨by first | rfl | (simp; done) | (simp [*]; done), by repeat (first | exact Drawn0.refl _ | apply Drawn0.step)⟩
  ·
   rw [if_neg c4] at H
   have c4b0 : decide ((Int.tmod a0 a1) < 0) = false := decide_eq_false c4
   clear c4
   obtain rfl := Option.some.inj H
   go_enter Try.func56, Try.ntmps56
   go_wp2
   go_ret
   exact ⟨by first | rfl | (simp; done) | (simp [*]; done), by repeat (first | exact Drawn0.refl _ | apply Drawn0.step)⟩

/-! ### chancellaw5_kind: function 55 -/
def chancellaw5_kind.f (a0 : Int) : Option (ByteArray) := (some (([(⟨#[85, 115, 101, 114]⟩ : ByteArray), (⟨#[71, 114, 111, 117, 112]⟩ : ByteArray), (⟨#[68, 111, 99]⟩ : ByteArray), (⟨#[84, 101, 97, 109]⟩ : ByteArray)] : List ByteArray) : List ByteArray)).bind fun y314 => ((chancellaw5_within.f a0 4).bind fun t317 => (if 0 ≤ t317 then (if t317 < (y314.length : Int) then (some (rdOf ByteArray.empty y314 t317)) else (none)) else (none)))
set_option maxHeartbeats 8000000 in
set_option maxRecDepth 100000 in
theorem chancellaw5_kind.calls (a0 : Int) (r : ByteArray) (w : World) (h : chancellaw5_kind.f a0 = some r) :
  Calls Try.prog 55 #[.int .i64 a0] w fun e w' => e = .returned (.string r) ∧ Below w.heap.size w w' := by
 have HB := aZ_ (Below.refl w.heap.size w)
 have H : ((some (([(⟨#[85, 115, 101, 114]⟩ : ByteArray), (⟨#[71, 114, 111, 117, 112]⟩ : ByteArray), (⟨#[68, 111, 99]⟩ : ByteArray), (⟨#[84, 101, 97, 109]⟩ : ByteArray)] : List ByteArray) : List ByteArray)).bind fun y314 => ((chancellaw5_within.f a0 4).bind fun t317 => (if 0 ≤ t317 then (if t317 < (y314.length : Int) then (some (rdOf ByteArray.empty y314 t317)) else (none)) else (none)))) = some r := h
 clear h
 obtain ⟨y314, hy314⟩ : ∃ y_ : List ByteArray, y_ = (([(⟨#[85, 115, 101, 114]⟩ : ByteArray), (⟨#[71, 114, 111, 117, 112]⟩ : ByteArray), (⟨#[68, 111, 99]⟩ : ByteArray), (⟨#[84, 101, 97, 109]⟩ : ByteArray)] : List ByteArray)) := ⟨_, rfl⟩
 replace H : ((chancellaw5_within.f a0 4).bind fun t317 => (if 0 ≤ t317 then (if t317 < (y314.length : Int) then (some (rdOf ByteArray.empty y314 t317)) else (none)) else (none))) = some r := by first | (rw [hy314]; with_reducible exact H) | (have H2_ := (Option.bind_some _ _).symm.trans H; rw [hy314]; with_reducible exact H2_) | (have H2_ := (Option.bind_some _ _).symm.trans H; with_reducible exact H2_) | with_reducible exact H | (rw [hy314]; exact H) | exact H
 have Ny314 := aZ_ hy314
 clear hy314
 replace H := Option.bind_eq_some_iff.mp H
 obtain ⟨t317, A20, H⟩ := H
 replace H : (if 0 ≤ t317 then (if t317 < (y314.length : Int) then (some (rdOf ByteArray.empty y314 t317)) else (none)) else (none)) = some r := H
 have A2 := aZ_ A20
 clear A20
 by_cases c3 : 0 ≤ t317
 ·
  rw [if_pos c3] at H
  have c3b0 : decide (0 ≤ t317) = true := decide_eq_true c3
  clear c3
  by_cases c4 : t317 < (y314.length : Int)
  ·
   rw [if_pos c4] at H
   have c4b0 : decide (t317 < (y314.length : Int)) = true := decide_eq_true c4
   clear c4
   obtain rfl := Option.some.inj H
   go_enter Try.func55, Try.ntmps55
   go_wp2_with (first | ((with_reducible refine gate_dst (N := 3) rfl ?_); refine Kd.R_lit Kd.string _ 9 ?hg (N := 3) ?hd (xs := ([(⟨#[85, 115, 101, 114]⟩ : ByteArray), (⟨#[71, 114, 111, 117, 112]⟩ : ByteArray), (⟨#[68, 111, 99]⟩ : ByteArray), (⟨#[84, 101, 97, 109]⟩ : ByteArray)] : List ByteArray)) (inner := [.string (⟨#[85, 115, 101, 114]⟩ : ByteArray), .string (⟨#[71, 114, 111, 117, 112]⟩ : ByteArray), .string (⟨#[68, 111, 99]⟩ : ByteArray), .string (⟨#[84, 101, 97, 109]⟩ : ByteArray)]) (ok := fun _ => True) (okp := fun _ => True) ?hr ?hp (fun _ hk => hk) trivial (Below.refl _ _) (Nat.le_refl _) (by simp) ?_; (case hd => rfl); (case hg => rfl); (case hr => first | (go_simp; done) | (go_simp; rfl)); (case hp => exact (Reps.one (show Kd.M Kd.string _ _ _ (⟨#[85, 115, 101, 114]⟩ : ByteArray) [.string (⟨#[85, 115, 101, 114]⟩ : ByteArray)] from rfl) (Reps.one (show Kd.M Kd.string _ _ _ (⟨#[71, 114, 111, 117, 112]⟩ : ByteArray) [.string (⟨#[71, 114, 111, 117, 112]⟩ : ByteArray)] from rfl) (Reps.one (show Kd.M Kd.string _ _ _ (⟨#[68, 111, 99]⟩ : ByteArray) [.string (⟨#[68, 111, 99]⟩ : ByteArray)] from rfl) (Reps.one (show Kd.M Kd.string _ _ _ (⟨#[84, 101, 97, 109]⟩ : ByteArray) [.string (⟨#[84, 101, 97, 109]⟩ : ByteArray)] from rfl) (Reps.none _ _)))))); intro v315 w5 ho6 hb hg_ hnew_; clear hg_ hnew_; (first | rw [← Ny314.out] at ho6 | (simp only [Int.reduceToNat] at ho6; rw [← Ny314.out] at ho6)); have HO316 := aZ_ (Kd.R_lower ho6 (below_size (bl HB))); replace HB := aZ_ (below_step (bl HB) hb); clear hb ho6) | ((with_reducible refine gate_callee (f := 56) rfl ?_); refine goesL_ (some 5) rfl rfl Try.func56 (by kernel_rfl) rfl #[.int .i64 a0, .int .i64 4] rfl gm_ ?_; (with_reducible refine (chancellaw5_within.calls a0 4 t317 _ A2.out).mono ?_); rintro e w' ⟨rfl, ⟨nd, rfl⟩⟩; refine ⟨_, rfl, ?_⟩; obtain ⟨Ao7, co7, eo7⟩ := Kd.R_slice HO316.out; subst eo7; have p318 : 0 ≤ (t317 : Int) := of_decide_eq_true asm_; have q318 : t317 < (y314.length : Int) := of_decide_eq_true asm_; obtain ⟨ad318, e318, hx318_0⟩ := Kd.at_string (Kd.R_reads' HO316.out).2.2 t317 p318 q318; cases e318; replace p318 := eq_true p318; replace q318 := eq_true q318))
   go_ret
   exact ⟨by first | rfl | (simp [errW_none, errW_some] <;> rfl) | (simp [*, errW_none, errW_some] <;> rfl), bl HB⟩
  ·
   rw [if_neg c4] at H
   exact absurd H (by simp)
 ·
  rw [if_neg c3] at H
  exact absurd H (by simp)

/-! ### chancellaw5_name: function 57 -/
def chancellaw5_name.f (a0 : Int) : Option (ByteArray) := (some (([(⟨#[97]⟩ : ByteArray), (⟨#[97, 103, 101]⟩ : ByteArray), (⟨#[105, 102]⟩ : ByteArray), (⟨#[99, 111, 110, 116, 97, 105, 110, 115]⟩ : ByteArray), (⟨#[112, 114, 105, 110, 99, 105, 112, 97, 108]⟩ : ByteArray), (⟨#[95, 120]⟩ : ByteArray), (⟨#[110, 97, 109, 101]⟩ : ByteArray)] : List ByteArray) : List ByteArray)).bind fun y319 => ((chancellaw5_within.f a0 7).bind fun t322 => (if 0 ≤ t322 then (if t322 < (y319.length : Int) then (some (rdOf ByteArray.empty y319 t322)) else (none)) else (none)))
set_option maxHeartbeats 8000000 in
set_option maxRecDepth 100000 in
theorem chancellaw5_name.calls (a0 : Int) (r : ByteArray) (w : World) (h : chancellaw5_name.f a0 = some r) :
  Calls Try.prog 57 #[.int .i64 a0] w fun e w' => e = .returned (.string r) ∧ Below w.heap.size w w' := by
 have HB := aZ_ (Below.refl w.heap.size w)
 have H : ((some (([(⟨#[97]⟩ : ByteArray), (⟨#[97, 103, 101]⟩ : ByteArray), (⟨#[105, 102]⟩ : ByteArray), (⟨#[99, 111, 110, 116, 97, 105, 110, 115]⟩ : ByteArray), (⟨#[112, 114, 105, 110, 99, 105, 112, 97, 108]⟩ : ByteArray), (⟨#[95, 120]⟩ : ByteArray), (⟨#[110, 97, 109, 101]⟩ : ByteArray)] : List ByteArray) : List ByteArray)).bind fun y319 => ((chancellaw5_within.f a0 7).bind fun t322 => (if 0 ≤ t322 then (if t322 < (y319.length : Int) then (some (rdOf ByteArray.empty y319 t322)) else (none)) else (none)))) = some r := h
 clear h
 obtain ⟨y319, hy319⟩ : ∃ y_ : List ByteArray, y_ = (([(⟨#[97]⟩ : ByteArray), (⟨#[97, 103, 101]⟩ : ByteArray), (⟨#[105, 102]⟩ : ByteArray), (⟨#[99, 111, 110, 116, 97, 105, 110, 115]⟩ : ByteArray), (⟨#[112, 114, 105, 110, 99, 105, 112, 97, 108]⟩ : ByteArray), (⟨#[95, 120]⟩ : ByteArray), (⟨#[110, 97, 109, 101]⟩ : ByteArray)] : List ByteArray)) := ⟨_, rfl⟩
 replace H : ((chancellaw5_within.f a0 7).bind fun t322 => (if 0 ≤ t322 then (if t322 < (y319.length : Int) then (some (rdOf ByteArray.empty y319 t322)) else (none)) else (none))) = some r := by first | (rw [hy319]; with_reducible exact H) | (have H2_ := (Option.bind_some _ _).symm.trans H; rw [hy319]; with_reducible exact H2_) | (have H2_ := (Option.bind_some _ _).symm.trans H; with_reducible exact H2_) | with_reducible exact H | (rw [hy319]; exact H) | exact H
 have Ny319 := aZ_ hy319
 clear hy319
 replace H := Option.bind_eq_some_iff.mp H
 obtain ⟨t322, A20, H⟩ := H
 replace H : (if 0 ≤ t322 then (if t322 < (y319.length : Int) then (some (rdOf ByteArray.empty y319 t322)) else (none)) else (none)) = some r := H
 have A2 := aZ_ A20
 clear A20
 by_cases c3 : 0 ≤ t322
 ·
  rw [if_pos c3] at H
  have c3b0 : decide (0 ≤ t322) = true := decide_eq_true c3
  clear c3
  by_cases c4 : t322 < (y319.length : Int)
  ·
   rw [if_pos c4] at H
   have c4b0 : decide (t322 < (y319.length : Int)) = true := decide_eq_true c4
   clear c4
   obtain rfl := Option.some.inj H
   go_enter Try.func57, Try.ntmps57
   go_wp2_with (first | ((with_reducible refine gate_dst (N := 3) rfl ?_); refine Kd.R_lit Kd.string _ 9 ?hg (N := 3) ?hd (xs := ([(⟨#[97]⟩ : ByteArray), (⟨#[97, 103, 101]⟩ : ByteArray), (⟨#[105, 102]⟩ : ByteArray), (⟨#[99, 111, 110, 116, 97, 105, 110, 115]⟩ : ByteArray), (⟨#[112, 114, 105, 110, 99, 105, 112, 97, 108]⟩ : ByteArray), (⟨#[95, 120]⟩ : ByteArray), (⟨#[110, 97, 109, 101]⟩ : ByteArray)] : List ByteArray)) (inner := [.string (⟨#[97]⟩ : ByteArray), .string (⟨#[97, 103, 101]⟩ : ByteArray), .string (⟨#[105, 102]⟩ : ByteArray), .string (⟨#[99, 111, 110, 116, 97, 105, 110, 115]⟩ : ByteArray), .string (⟨#[112, 114, 105, 110, 99, 105, 112, 97, 108]⟩ : ByteArray), .string (⟨#[95, 120]⟩ : ByteArray), .string (⟨#[110, 97, 109, 101]⟩ : ByteArray)]) (ok := fun _ => True) (okp := fun _ => True) ?hr ?hp (fun _ hk => hk) trivial (Below.refl _ _) (Nat.le_refl _) (by simp) ?_; (case hd => rfl); (case hg => rfl); (case hr => first | (go_simp; done) | (go_simp; rfl)); (case hp => exact (Reps.one (show Kd.M Kd.string _ _ _ (⟨#[97]⟩ : ByteArray) [.string (⟨#[97]⟩ : ByteArray)] from rfl) (Reps.one (show Kd.M Kd.string _ _ _ (⟨#[97, 103, 101]⟩ : ByteArray) [.string (⟨#[97, 103, 101]⟩ : ByteArray)] from rfl) (Reps.one (show Kd.M Kd.string _ _ _ (⟨#[105, 102]⟩ : ByteArray) [.string (⟨#[105, 102]⟩ : ByteArray)] from rfl) (Reps.one (show Kd.M Kd.string _ _ _ (⟨#[99, 111, 110, 116, 97, 105, 110, 115]⟩ : ByteArray) [.string (⟨#[99, 111, 110, 116, 97, 105, 110, 115]⟩ : ByteArray)] from rfl) (Reps.one (show Kd.M Kd.string _ _ _ (⟨#[112, 114, 105, 110, 99, 105, 112, 97, 108]⟩ : ByteArray) [.string (⟨#[112, 114, 105, 110, 99, 105, 112, 97, 108]⟩ : ByteArray)] from rfl) (Reps.one (show Kd.M Kd.string _ _ _ (⟨#[95, 120]⟩ : ByteArray) [.string (⟨#[95, 120]⟩ : ByteArray)] from rfl) (Reps.one (show Kd.M Kd.string _ _ _ (⟨#[110, 97, 109, 101]⟩ : ByteArray) [.string (⟨#[110, 97, 109, 101]⟩ : ByteArray)] from rfl) (Reps.none _ _))))))))); intro v320 w5 ho6 hb hg_ hnew_; clear hg_ hnew_; (first | rw [← Ny319.out] at ho6 | (simp only [Int.reduceToNat] at ho6; rw [← Ny319.out] at ho6)); have HO321 := aZ_ (Kd.R_lower ho6 (below_size (bl HB))); replace HB := aZ_ (below_step (bl HB) hb); clear hb ho6) | ((with_reducible refine gate_callee (f := 56) rfl ?_); refine goesL_ (some 5) rfl rfl Try.func56 (by kernel_rfl) rfl #[.int .i64 a0, .int .i64 7] rfl gm_ ?_; (with_reducible refine (chancellaw5_within.calls a0 7 t322 _ A2.out).mono ?_); rintro e w' ⟨rfl, ⟨nd, rfl⟩⟩; refine ⟨_, rfl, ?_⟩; obtain ⟨Ao7, co7, eo7⟩ := Kd.R_slice HO321.out; subst eo7; have p323 : 0 ≤ (t322 : Int) := of_decide_eq_true asm_; have q323 : t322 < (y319.length : Int) := of_decide_eq_true asm_; obtain ⟨ad323, e323, hx323_0⟩ := Kd.at_string (Kd.R_reads' HO321.out).2.2 t322 p323 q323; cases e323; replace p323 := eq_true p323; replace q323 := eq_true q323))
   go_ret
   exact ⟨by first | rfl | (simp [errW_none, errW_some] <;> rfl) | (simp [*, errW_none, errW_some] <;> rfl), bl HB⟩
  ·
   rw [if_neg c4] at H
   exact absurd H (by simp)
 ·
  rw [if_neg c3] at H
  exact absurd H (by simp)

end Go.Proofs.Ytelibndkkokadaa.GB
