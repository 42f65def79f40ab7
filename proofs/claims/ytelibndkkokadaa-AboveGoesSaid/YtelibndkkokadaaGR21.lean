-- Written by wip/tools/gprint.py over the kit's printer.
import Derived.Test.YtelibndkkokadaaGB0
import Derived.Test.YtelibndkkokadaaJk
import Derived.Test.YtelibndkkokadaaJc
import Derived.Test.YtelibndkkokadaaJe
import Derived.Test.YtelibndkkokadaaGB15
import Derived.Test.YtelibndkkokadaaGB17
import Derived.Test.YtelibndkkokadaaSqz
namespace Go.Proofs.Ytelibndkkokadaa.GB
open Go.RowKit Go.Proofs.YtelibndkkokadaaW.PrintWords Go.Proofs.YtelibndkkokadaaW.PrintLast Go.Proofs.Ytelibndkkokadaa.HandV Go.Proofs.YtelibndkkokadaaW.PrintMore
attribute [local go_sem] max2_int min2_int max_two min_two max_three min_three max_four min_four   -- for this text's walks alone
set_option linter.unusedVariables false
set_option linter.unusedSimpArgs false

attribute [local go_sem high] eqA28
/-! ### chancellaw9_AboveGoes: function 4 -/
mutual
def chancellaw9_AboveGoes.l0 : Nat → List (S38) → Int → Option (Bool)
 | 0, _, _ => none
 | k + 1, x3, x4 => if x4 < (x3.length : Int) then (if 0 ≤ x4 then ((above_In.f x3 ((rd_T38 x3 x4).f0.f0) ((rd_T38 x3 x4).f0.f1) ((rd_T38 x3 x4).f0.f0) ((rd_T38 x3 x4).f0.f1)).bind fun t540 => (if t540 = true then ((above_Above.f x3 ((rd_T38 x3 x4).f0.f0) ((rd_T38 x3 x4).f0.f1)).bind fun t541 => (chancellaw9_AboveGoes.l1 k x3 x4 t541 0 ((rd_T38 x3 x4).f0.f0) ((rd_T38 x3 x4).f0.f1))) else (some false))) else (none)) else (some true)
def chancellaw9_AboveGoes.l1 : Nat → List (S38) → Int → List (S28) → Int → ByteArray → ByteArray → Option (Bool)
 | 0, _, _, _, _, _, _ => none
 | k + 1, x3, x4, x6, x7, x540000, x540001 => if x7 < (x6.length : Int) then (chancellaw9_AboveGoes.l2 k x3 x4 x6 x7 false 0 x540000 x540001) else (chancellaw9_AboveGoes.l4 k x3 x4 0 x540000 x540001)
def chancellaw9_AboveGoes.l2 : Nat → List (S38) → Int → List (S28) → Int → Bool → Int → ByteArray → ByteArray → Option (Bool)
 | 0, _, _, _, _, _, _, _, _ => none
 | k + 1, x3, x4, x6, x7, x8, x9, x540000, x540001 => if 0 ≤ x4 then (if x4 < (x3.length : Int) then (if x9 < (((rd_T38 x3 x4).f1).length : Int) then (if x8 = true then (chancellaw9_AboveGoes.l2 k x3 x4 x6 x7 true (wrap64 (x9 + 1)) x540000 x540001) else (if 0 ≤ x9 then (if 0 ≤ x7 then (if x7 < (x6.length : Int) then ((above_In.f x3 ((rd_T28 ((rd_T38 x3 x4).f1) x9).f0) ((rd_T28 ((rd_T38 x3 x4).f1) x9).f1) ((rd_T28 x6 x7).f0) ((rd_T28 x6 x7).f1)).bind fun t548 => (chancellaw9_AboveGoes.l2 k x3 x4 x6 x7 t548 (wrap64 (x9 + 1)) x540000 x540001)) else (none)) else (none)) else (none))) else (if x8 = true then (if 0 ≤ x7 then (if x7 < (x6.length : Int) then ((above_In.f x3 x540000 x540001 ((rd_T28 x6 x7).f0) ((rd_T28 x6 x7).f1)).bind fun t550 => (if t550 = true then (if x7 > 0 then (if 0 ≤ (wrap64 (x7 - 1)) then (if (wrap64 (x7 - 1)) < (x6.length : Int) then (chancellaw9_AboveGoes.j3 k x3 x4 x6 x7 ((((rd_T28 x6 x7).f0).toList) == (((rd_T28 x6 (wrap64 (x7 - 1))).f0).toList) && ((((rd_T28 x6 x7).f1).toList) == (((rd_T28 x6 (wrap64 (x7 - 1))).f1).toList))) x540000 x540001) else (none)) else (none)) else (chancellaw9_AboveGoes.j3 k x3 x4 x6 x7 false x540000 x540001)) else (chancellaw9_AboveGoes.j3 k x3 x4 x6 x7 true x540000 x540001))) else (none)) else (none)) else (chancellaw9_AboveGoes.j3 k x3 x4 x6 x7 true x540000 x540001))) else (none)) else (none)
def chancellaw9_AboveGoes.j3 : Nat → List (S38) → Int → List (S28) → Int → Bool → ByteArray → ByteArray → Option (Bool)
 | 0, _, _, _, _, _, _, _ => none
 | k + 1, x3, x4, x6, x7, x96, x540000, x540001 => if x96 = true then (some false) else (if 0 ≤ x7 then (if x7 < (x6.length : Int) then ((above_Above.f x3 ((rd_T28 x6 x7).f0) ((rd_T28 x6 x7).f1)).bind fun t554 => (chancellaw9_AboveGoes.l3 k x3 x4 x6 x7 t554 0 x540000 x540001)) else (none)) else (none))
def chancellaw9_AboveGoes.l3 : Nat → List (S38) → Int → List (S28) → Int → List (S28) → Int → ByteArray → ByteArray → Option (Bool)
 | 0, _, _, _, _, _, _, _, _ => none
 | k + 1, x3, x4, x6, x7, x10, x11, x540000, x540001 => if x11 < (x10.length : Int) then (if 0 ≤ x11 then ((above_In.f x3 x540000 x540001 ((rd_T28 x10 x11).f0) ((rd_T28 x10 x11).f1)).bind fun t558 => (if t558 = true then (chancellaw9_AboveGoes.l3 k x3 x4 x6 x7 x10 (wrap64 (x11 + 1)) x540000 x540001) else (some false))) else (none)) else (chancellaw9_AboveGoes.l1 k x3 x4 x6 (wrap64 (x7 + 1)) x540000 x540001)
def chancellaw9_AboveGoes.l4 : Nat → List (S38) → Int → Int → ByteArray → ByteArray → Option (Bool)
 | 0, _, _, _, _, _ => none
 | k + 1, x3, x4, x12, x540000, x540001 => if 0 ≤ x4 then (if x4 < (x3.length : Int) then (if x12 < (((rd_T38 x3 x4).f1).length : Int) then (if 0 ≤ x12 then ((above_In.f x3 x540000 x540001 ((rd_T28 ((rd_T38 x3 x4).f1) x12).f0) ((rd_T28 ((rd_T38 x3 x4).f1) x12).f1)).bind fun t562 => (if t562 = true then (chancellaw9_AboveGoes.l4 k x3 x4 (wrap64 (x12 + 1)) x540000 x540001) else (some false))) else (none)) else (chancellaw9_AboveGoes.l0 k x3 (wrap64 (x4 + 1)))) else (none)) else (none)
end
def chancellaw9_AboveGoes.g (k : Nat) (t535 : List (S38))  : Option (Bool) := (chancellaw9_AboveGoes.l0 k t535 0)
theorem chancellaw9_AboveGoes.mono_l : ∀ k, (∀ y0 y1, LeO (chancellaw9_AboveGoes.l0 k y0 y1) (chancellaw9_AboveGoes.l0 (k + 1) y0 y1)) ∧ (∀ y0 y1 y2 y3 y4 y5, LeO (chancellaw9_AboveGoes.l1 k y0 y1 y2 y3 y4 y5) (chancellaw9_AboveGoes.l1 (k + 1) y0 y1 y2 y3 y4 y5)) ∧ (∀ y0 y1 y2 y3 y4 y5 y6 y7, LeO (chancellaw9_AboveGoes.l2 k y0 y1 y2 y3 y4 y5 y6 y7) (chancellaw9_AboveGoes.l2 (k + 1) y0 y1 y2 y3 y4 y5 y6 y7)) ∧ (∀ y0 y1 y2 y3 y4 y5 y6, LeO (chancellaw9_AboveGoes.j3 k y0 y1 y2 y3 y4 y5 y6) (chancellaw9_AboveGoes.j3 (k + 1) y0 y1 y2 y3 y4 y5 y6)) ∧ (∀ y0 y1 y2 y3 y4 y5 y6 y7, LeO (chancellaw9_AboveGoes.l3 k y0 y1 y2 y3 y4 y5 y6 y7) (chancellaw9_AboveGoes.l3 (k + 1) y0 y1 y2 y3 y4 y5 y6 y7)) ∧ (∀ y0 y1 y2 y3 y4, LeO (chancellaw9_AboveGoes.l4 k y0 y1 y2 y3 y4) (chancellaw9_AboveGoes.l4 (k + 1) y0 y1 y2 y3 y4))
 | 0 => ⟨fun _ _ r h => by simp [chancellaw9_AboveGoes.l0] at h, fun _ _ _ _ _ _ r h => by simp [chancellaw9_AboveGoes.l1] at h, fun _ _ _ _ _ _ _ _ r h => by simp [chancellaw9_AboveGoes.l2] at h, fun _ _ _ _ _ _ _ r h => by simp [chancellaw9_AboveGoes.j3] at h, fun _ _ _ _ _ _ _ _ r h => by simp [chancellaw9_AboveGoes.l3] at h, fun _ _ _ _ _ r h => by simp [chancellaw9_AboveGoes.l4] at h⟩
 | k + 1 => by
  obtain ⟨ih0, ih1, ih2, ih3, ih4, ih5⟩ := chancellaw9_AboveGoes.mono_l k
  refine ⟨?_, ?_, ?_, ?_, ?_, ?_⟩
  ·
   intro y0 y1
   unfold chancellaw9_AboveGoes.l0
   repeat' first
   | (with_reducible exact ih0 _ _)
   | (with_reducible exact ih1 _ _ _ _ _ _)
   | (with_reducible exact ih2 _ _ _ _ _ _ _ _)
   | (with_reducible exact ih3 _ _ _ _ _ _ _)
   | (with_reducible exact ih4 _ _ _ _ _ _ _ _)
   | (with_reducible exact ih5 _ _ _ _ _)
   | (with_reducible exact LeO.refl _)
   | (with_reducible exact LeO.none _)
   | (with_reducible refine LeO.ite ?_ ?_)
   | (with_reducible refine LeO.bind ?_ (fun _ => ?_))
   | exact ih0 _ _
   | exact ih1 _ _ _ _ _ _
   | exact ih2 _ _ _ _ _ _ _ _
   | exact ih3 _ _ _ _ _ _ _
   | exact ih4 _ _ _ _ _ _ _ _
   | exact ih5 _ _ _ _ _
   | exact LeO.none _
   | refine LeO.ite ?_ ?_
   | refine LeO.bind ?_ (fun _ => ?_)
  ·
   intro y0 y1 y2 y3 y4 y5
   unfold chancellaw9_AboveGoes.l1
   repeat' first
   | (with_reducible exact ih0 _ _)
   | (with_reducible exact ih1 _ _ _ _ _ _)
   | (with_reducible exact ih2 _ _ _ _ _ _ _ _)
   | (with_reducible exact ih3 _ _ _ _ _ _ _)
   | (with_reducible exact ih4 _ _ _ _ _ _ _ _)
   | (with_reducible exact ih5 _ _ _ _ _)
   | (with_reducible exact LeO.refl _)
   | (with_reducible exact LeO.none _)
   | (with_reducible refine LeO.ite ?_ ?_)
   | (with_reducible refine LeO.bind ?_ (fun _ => ?_))
   | exact ih0 _ _
   | exact ih1 _ _ _ _ _ _
   | exact ih2 _ _ _ _ _ _ _ _
   | exact ih3 _ _ _ _ _ _ _
   | exact ih4 _ _ _ _ _ _ _ _
   | exact ih5 _ _ _ _ _
   | exact LeO.none _
   | refine LeO.ite ?_ ?_
   | refine LeO.bind ?_ (fun _ => ?_)
  ·
   intro y0 y1 y2 y3 y4 y5 y6 y7
   unfold chancellaw9_AboveGoes.l2
   repeat' first
   | (with_reducible exact ih0 _ _)
   | (with_reducible exact ih1 _ _ _ _ _ _)
   | (with_reducible exact ih2 _ _ _ _ _ _ _ _)
   | (with_reducible exact ih3 _ _ _ _ _ _ _)
   | (with_reducible exact ih4 _ _ _ _ _ _ _ _)
   | (with_reducible exact ih5 _ _ _ _ _)
   | (with_reducible exact LeO.refl _)
   | (with_reducible exact LeO.none _)
   | (with_reducible refine LeO.ite ?_ ?_)
   | (with_reducible refine LeO.bind ?_ (fun _ => ?_))
   | exact ih0 _ _
   | exact ih1 _ _ _ _ _ _
   | exact ih2 _ _ _ _ _ _ _ _
   | exact ih3 _ _ _ _ _ _ _
   | exact ih4 _ _ _ _ _ _ _ _
   | exact ih5 _ _ _ _ _
   | exact LeO.none _
   | refine LeO.ite ?_ ?_
   | refine LeO.bind ?_ (fun _ => ?_)
  ·
   intro y0 y1 y2 y3 y4 y5 y6
   unfold chancellaw9_AboveGoes.j3
   repeat' first
   | (with_reducible exact ih0 _ _)
   | (with_reducible exact ih1 _ _ _ _ _ _)
   | (with_reducible exact ih2 _ _ _ _ _ _ _ _)
   | (with_reducible exact ih3 _ _ _ _ _ _ _)
   | (with_reducible exact ih4 _ _ _ _ _ _ _ _)
   | (with_reducible exact ih5 _ _ _ _ _)
   | (with_reducible exact LeO.refl _)
   | (with_reducible exact LeO.none _)
   | (with_reducible refine LeO.ite ?_ ?_)
   | (with_reducible refine LeO.bind ?_ (fun _ => ?_))
   | exact ih0 _ _
   | exact ih1 _ _ _ _ _ _
   | exact ih2 _ _ _ _ _ _ _ _
   | exact ih3 _ _ _ _ _ _ _
   | exact ih4 _ _ _ _ _ _ _ _
   | exact ih5 _ _ _ _ _
   | exact LeO.none _
   | refine LeO.ite ?_ ?_
   | refine LeO.bind ?_ (fun _ => ?_)
  ·
   intro y0 y1 y2 y3 y4 y5 y6 y7
   unfold chancellaw9_AboveGoes.l3
   repeat' first
   | (with_reducible exact ih0 _ _)
   | (with_reducible exact ih1 _ _ _ _ _ _)
   | (with_reducible exact ih2 _ _ _ _ _ _ _ _)
   | (with_reducible exact ih3 _ _ _ _ _ _ _)
   | (with_reducible exact ih4 _ _ _ _ _ _ _ _)
   | (with_reducible exact ih5 _ _ _ _ _)
   | (with_reducible exact LeO.refl _)
   | (with_reducible exact LeO.none _)
   | (with_reducible refine LeO.ite ?_ ?_)
   | (with_reducible refine LeO.bind ?_ (fun _ => ?_))
   | exact ih0 _ _
   | exact ih1 _ _ _ _ _ _
   | exact ih2 _ _ _ _ _ _ _ _
   | exact ih3 _ _ _ _ _ _ _
   | exact ih4 _ _ _ _ _ _ _ _
   | exact ih5 _ _ _ _ _
   | exact LeO.none _
   | refine LeO.ite ?_ ?_
   | refine LeO.bind ?_ (fun _ => ?_)
  ·
   intro y0 y1 y2 y3 y4
   unfold chancellaw9_AboveGoes.l4
   repeat' first
   | (with_reducible exact ih0 _ _)
   | (with_reducible exact ih1 _ _ _ _ _ _)
   | (with_reducible exact ih2 _ _ _ _ _ _ _ _)
   | (with_reducible exact ih3 _ _ _ _ _ _ _)
   | (with_reducible exact ih4 _ _ _ _ _ _ _ _)
   | (with_reducible exact ih5 _ _ _ _ _)
   | (with_reducible exact LeO.refl _)
   | (with_reducible exact LeO.none _)
   | (with_reducible refine LeO.ite ?_ ?_)
   | (with_reducible refine LeO.bind ?_ (fun _ => ?_))
   | exact ih0 _ _
   | exact ih1 _ _ _ _ _ _
   | exact ih2 _ _ _ _ _ _ _ _
   | exact ih3 _ _ _ _ _ _ _
   | exact ih4 _ _ _ _ _ _ _ _
   | exact ih5 _ _ _ _ _
   | exact LeO.none _
   | refine LeO.ite ?_ ?_
   | refine LeO.bind ?_ (fun _ => ?_)
def chancellaw9_AboveGoes.T18 : Bool × List (List Nat × List Nat) := (true, [([], []), ([0], [0]), ([1], [1]), ([1], [1]), ([1], [1]), ([3, 4, 1], [1, 3, 4]), ([5, 1], [1, 5]), ([6, 1], [1, 6]), ([1], [1]), ([7, 8, 1], [1, 7, 8]), ([9, 1], [1, 9]), ([1], [1]), ([1], [1]), ([11, 12, 1], [1, 11, 12]), ([13, 1], [1, 13]), ([2, 10, 14, 1, 1], [1, 2, 10, 14]), ([1, 15], [1, 15]), ([16, 15, 0, 1, 2, 3, 4, 5, 6, 7, 8, 9, 10, 11, 12, 13, 14, 15, 16], [0, 16])])
def chancellaw9_AboveGoes.B18 : List Nat := [0, 1, 3, 3, 3, 27, 59, 123, 3, 507, 1019, 3, 3, 6147, 14339, 32767, 65535, 131071]
theorem chancellaw9_AboveGoes.tab18 : rtab .any (opsOf Try.f4 18) = chancellaw9_AboveGoes.T18 := by kernel_rfl
theorem chancellaw9_AboveGoes.bits18 : waitsOk chancellaw9_AboveGoes.T18.2 chancellaw9_AboveGoes.B18 = true := by kernel_rfl
def chancellaw9_AboveGoes.T19 : Bool × List (List Nat × List Nat) := (true, [([], []), ([0], [0]), ([1], [1]), ([2], [2]), ([2], [2]), ([2], [2]), ([2], [2]), ([5, 6, 2], [2, 5, 6]), ([7, 2], [2, 7]), ([3, 4, 8, 2, 2], [2, 3, 4, 8]), ([9, 2], [2, 9]), ([2, 10], [2, 10]), ([11, 9], [11]), ([12], [12]), ([13, 12], [12, 13]), ([14, 12, 12], [12, 14]), ([15], [15]), ([15], [15]), ([16, 17, 15], [15, 16, 17]), ([18, 15], [15, 18]), ([15], [15]), ([15], [15]), ([21, 15], [15, 21]), ([20, 22, 15], [15, 20, 22]), ([23, 15], [15, 23]), ([19, 24, 15], [15, 19, 24]), ([15, 25, 12], [12, 15, 25]), ([12, 26], [12, 26])])
def chancellaw9_AboveGoes.B19 : List Nat := [0, 1, 3, 7, 7, 7, 7, 103, 231, 511, 1023, 2047, 4095, 8191, 16383, 32767, 65535, 65535, 262143, 524287, 65535, 65535, 2162687, 7405567, 15794175, 33554431, 67108863, 134217727]
theorem chancellaw9_AboveGoes.tab19 : rtab .any (opsOf Try.f4 19) = chancellaw9_AboveGoes.T19 := by kernel_rfl
theorem chancellaw9_AboveGoes.bits19 : waitsOk chancellaw9_AboveGoes.T19.2 chancellaw9_AboveGoes.B19 = true := by kernel_rfl
def chancellaw9_AboveGoes.T25 : Bool × List (List Nat × List Nat) := (true, [([], []), ([], []), ([], []), ([], []), ([2, 3], [2, 3]), ([4], [4]), ([0, 1, 5], [0, 1, 5]), ([6], [6])])
def chancellaw9_AboveGoes.B25 : List Nat := [0, 0, 0, 0, 12, 28, 63, 127]
theorem chancellaw9_AboveGoes.tab25 : rtab .any (opsOf Try.f4 25) = chancellaw9_AboveGoes.T25 := by kernel_rfl
theorem chancellaw9_AboveGoes.bits25 : waitsOk chancellaw9_AboveGoes.T25.2 chancellaw9_AboveGoes.B25 = true := by kernel_rfl
def chancellaw9_AboveGoes.T30 : Bool × List (List Nat × List Nat) := (true, [([], []), ([], []), ([], []), ([], []), ([2, 3], [2, 3]), ([4], [4]), ([5], [5]), ([], []), ([6, 7], [6, 7]), ([8], [8]), ([0, 1, 9], [0, 1, 9]), ([10], [10])])
def chancellaw9_AboveGoes.B30 : List Nat := [0, 0, 0, 0, 12, 28, 60, 0, 252, 508, 1023, 2047]
theorem chancellaw9_AboveGoes.tab30 : rtab .any (opsOf Try.f4 30) = chancellaw9_AboveGoes.T30 := by kernel_rfl
theorem chancellaw9_AboveGoes.bits30 : waitsOk chancellaw9_AboveGoes.T30.2 chancellaw9_AboveGoes.B30 = true := by kernel_rfl
set_option maxHeartbeats 8000000 in
set_option maxRecDepth 100000 in
theorem chancellaw9_AboveGoes.calls (A0 : Option Addr) (c0 : Nat) (l0 : List (S49)) (r : Bool) (w : World) (hr0 : Kd.C k49 w A0 l0.length l0) (hc0 : l0.length ≤ c0) (h : ∀ g, GP.AnyG g → ∃ k, chancellaw9_AboveGoes.g k g  = some r) :
  Calls Try.prog 4 #[.slice A0 l0.length c0] w fun e w' => e = .returned (.bool r) ∧ Below w.heap.size w w' := by
 have hu28 := Try.underlying28
 have HR0 := aZ_ hr0
 have HC0 := aZ_ hc0
 clear hr0 hc0
 have HB := aZ_ (Below.refl w.heap.size w)
 have A2 := aZ_ (rfl : chancellaw9_known.f = some true)
 have HH := aZ_ h
 clear h
 go_enter Try.func4, Try.ntmps4
 go_upto_region 4 with (first | (go_at_call 13; refine (chancellaw9_known.calls  true _ A2.out).mono ?_; rintro e w5 ⟨rfl, hb⟩; replace HB := aZ_ (below_step (bl HB) hb); (try clear hb); (try clear hb2); (try clear hk); (try clear hi)) | (go_at_call 14; refine (GA.rgood8 l0 _ _ _ ?side1 ?side2).mono ?_; (case side1 => exact kC (Kd.C_below HR0.out HB.out)); (case side2 => exact HC0.out); rintro e wG ⟨vG, t535, rfl, hag_, ho0, hb⟩; have HAG := aZ_ hag_; clear hag_; have HO537 := aZ_ (Kd.N_lower (Kd.N_mono (ok' := fun k_ => True) ho0 (fun k_ hk_ => trivial)) (below_size (bl HB))); replace HB := aZ_ (below_step (bl HB) hb); (try clear hb); (try clear hb2); (try clear hk); (try clear hi); (try clear ho0)))
 obtain ⟨k, H⟩ := HH.out t535 HAG.out
 clear HH
 replace H : (chancellaw9_AboveGoes.l0 k t535 0) = some r := H
 by_cases c3 : True
 ·
  clear c3
  have H' := aZ_ H
  clear H
  try go_wp2
  go_loopg [4] k (fun kq v4 w' => ∃ (x4_1 : Int), v4 = .int .i64 x4_1 ∧ Aside0 (chancellaw9_AboveGoes.l0 kq t535 x4_1 = some r) ∧ Aside0 (kq ≤ k) ∧ Aside0 (Kd.N k38 38 w' w.heap.size (fun _ => True) vG t535) ∧ Aside0 (Below w.heap.size w w'))
  case atStart => exact ⟨(0), rf_, H', ⟨Nat.le_refl _⟩, ⟨kN HO537⟩, ⟨bl HB⟩⟩
  case round =>
   clear H'
   try clear c1
   try clear p2
   try clear c3
   try clear c4
   obtain ⟨x4_1, rfl, HA, HK1, HO_3, HB⟩ := hrel
   cases gk with
   | zero => exact absurd HA.out (by simp [chancellaw9_AboveGoes.l0])
   | succ k1 =>
    have H := HA.out
    clear HA
    simp only [chancellaw9_AboveGoes.l0] at H
    by_cases c7 : x4_1 < (t535.length : Int)
    ·
     rw [if_pos c7] at H
     have c7b0 : decide (x4_1 < (t535.length : Int)) = true := decide_eq_true c7
     clear c7
     by_cases c8 : 0 ≤ x4_1
     ·
      rw [if_pos c8] at H
      have c8b0 : decide (0 ≤ x4_1) = true := decide_eq_true c8
      clear c8
      replace H := Option.bind_eq_some_iff.mp H
      obtain ⟨t540, A90, H⟩ := H
      replace H : (if t540 = true then ((above_Above.f t535 ((rd_T38 t535 x4_1).f0.f0) ((rd_T38 t535 x4_1).f0.f1)).bind fun t541 => (chancellaw9_AboveGoes.l1 k1 t535 x4_1 t541 0 ((rd_T38 t535 x4_1).f0.f0) ((rd_T38 t535 x4_1).f0.f1))) else (some false)) = some r := H
      have A9 := aZ_ A90
      clear A90
      by_cases c10 : t540 = true
      ·
       subst c10
       have H1 : ((above_Above.f t535 ((rd_T38 t535 x4_1).f0.f0) ((rd_T38 t535 x4_1).f0.f1)).bind fun t541 => (chancellaw9_AboveGoes.l1 k1 t535 x4_1 t541 0 ((rd_T38 t535 x4_1).f0.f0) ((rd_T38 t535 x4_1).f0.f1))) = some r := by rw [if_pos rfl] at H; exact H
       clear H
       have H := H1
       clear H1
       replace H := Option.bind_eq_some_iff.mp H
       obtain ⟨t541, A110, H⟩ := H
       replace H : (chancellaw9_AboveGoes.l1 k1 t535 x4_1 t541 0 ((rd_T38 t535 x4_1).f0.f0) ((rd_T38 t535 x4_1).f0.f1)) = some r := H
       have A11 := aZ_ A110
       clear A110
       have H' := aZ_ H
       clear H
       obtain ⟨Ao12, co12, eo12⟩ := Kd.N_slice HO_3.out
       subst eo12
       have p538 : 0 ≤ (x4_1 : Int) := of_decide_eq_true asm_
       have q538 : x4_1 < (t535.length : Int) := of_decide_eq_true asm_
       obtain ⟨ad538, A538_2, c538_2, A538_3, c538_3, e538, hx538_0, hx538_1, hx538_2, hx538_3, hl538_2, hi538_2, hl538_3, hi538_3⟩ := at_T38 (Kd.N_reads' HO_3.out).2.2 x4_1 p538 q538
       cases e538
       obtain ⟨ce538, hce538, hMe538, hcc538⟩ := Kd.N_get HO_3.out z38 x4_1 p538 (by first | exact q538 | exact of_decide_eq_true asm_ | (have e_ := (Kd.N_reads' HO_3.out).1; omega))
       obtain ⟨ua538_2, uc538_2, ua538_3, uc538_3, rfl, ul538_2, ge538_2, ul538_3, ge538_3⟩ := k38_openF hMe538
       have hv538_2 := hcc538 2 _ rfl
       rw [add_field _ _ 2 (by omega)] at hv538_2
       replace hv538_2 := Option.some.inj (hv538_2.symm.trans hx538_2)
       injection hv538_2 with hva_ hvn_ hvc_
       rw [hva_] at ge538_2
       rw [hvc_] at ul538_2
       have HL538_2 := aZ_ (show Kd.V k28 28 _ w.heap.size _ _ ((rd_T38 t535 x4_1).f1) from Kd.V_mk ul538_2 ge538_2)
       clear hva_ hvn_ hvc_ ge538_2 ul538_2
       have hv538_3 := hcc538 3 _ rfl
       rw [add_field _ _ 3 (by omega)] at hv538_3
       replace hv538_3 := Option.some.inj (hv538_3.symm.trans hx538_3)
       injection hv538_3 with hva_ hvn_ hvc_
       rw [hva_] at ge538_3
       rw [hvc_] at ul538_3
       have HL538_3 := aZ_ (show Kd.V k58 58 _ w.heap.size _ _ ((rd_T38 t535 x4_1).f2) from Kd.V_mk ul538_3 ge538_3)
       clear hva_ hvn_ hvc_ ge538_3 ul538_3
       clear hcc538 hce538
       have HR538_2 := aZ_ hi538_2
       have HC538_2 := aZ_ hl538_2
       clear hi538_2 hl538_2
       have HR538_3 := aZ_ hi538_3
       have HC538_3 := aZ_ hl538_3
       clear hi538_3 hl538_3
       replace p538 := eq_true p538
       replace q538 := eq_true q538
       go_wp2_with (first | ((with_reducible refine gate_dst (N := 5) rfl ?_); refine bxE 5 #[.string (⟨#[]⟩ : ByteArray), .string (⟨#[]⟩ : ByteArray)] 28 ?_; intro gb539 hg w13 hbox hb; replace HO_3 := aZ_ (Kd.N_below (Kd.N_elderB (kN HO_3) gb539 (Nat.le_of_eq hg.symm)) hb); replace HL538_2 := aZ_ (Kd.V_below (Kd.V_elderB (kV HL538_2) gb539 (Nat.le_of_eq hg.symm)) hb); replace HL538_3 := aZ_ (Kd.V_below (Kd.V_elderB (kV HL538_3) gb539 (Nat.le_of_eq hg.symm)) hb); replace HR538_2 := aZ_ (Kd.C_below (kD HR538_2) hb); replace HR538_3 := aZ_ (Kd.C_below (kD HR538_3) hb); have BK539 := aZ_ (hbox); have GW539 := aZ_ ((by rw [hg]; exact (below_size (bl HB)) : w.heap.size ≤ gb539)); have GE539 := aZ_ ((by rw [hg]; exact (below_size (bl HB)) : w.heap.size ≤ gb539)); replace HB := aZ_ (below_step (bl HB) hb); clear hb hbox hg; obtain ⟨hcz14_0, hcz14_1, hfz14_0, hfz14_1⟩ := bc2 BK539) | ((with_reducible refine gate_callee (f := 16) rfl ?_); refine goesL_ (some 31) rfl rfl Try.func16 (by kernel_rfl) rfl #[.slice (some ad538) t535.length co12, .agg #[.string ((rd_T38 t535 x4_1).f0.f0), .string ((rd_T38 t535 x4_1).f0.f1)], .agg #[.string ((rd_T38 t535 x4_1).f0.f0), .string ((rd_T38 t535 x4_1).f0.f1)]] rfl gm_ ?_; (with_reducible refine (above_In.calls _ _ t535 ((rd_T38 t535 x4_1).f0.f0) ((rd_T38 t535 x4_1).f0.f1) ((rd_T38 t535 x4_1).f0.f0) ((rd_T38 t535 x4_1).f0.f1) true _ ?side1 ?side2 A9.out).mono ?_); (case side1 => refine (Kd.N_reads' (e := 38) (base := w.heap.size) (ok := fun k_ => (True ∧ k_ ≠ gb539)) (n := t535.length) (c := co12) ?_).2.2; exact (by (with_reducible repeat (first | apply Kd.N_alloc | apply Kd.N_drewN | apply Kd.N_drew)); exact (Kd.N_mono (Kd.N_far (p := ⟨gb539, 1, none⟩) (Kd.N_far (p := ⟨gb539, 0, none⟩) (Kd.N_mono HO_3.out (fun k_ hk => (⟨hk, hk.2⟩ : _ ∧ k_ ≠ gb539))) (fun _ hk => hk.2) (.string ((rd_T38 t535 x4_1).f0.f0))) (fun _ hk => hk.2) (.string ((rd_T38 t535 x4_1).f0.f1))) (fun _ h_ => h_.1)))); (case side2 => exact (Kd.N_reads' HO_3.out).2.1); rintro e w15 ⟨rfl, hb⟩; refine ⟨_, rfl, ?_⟩; replace HO_3 := aZ_ (Kd.N_below (by (with_reducible repeat (first | apply Kd.N_alloc | apply Kd.N_drewN | apply Kd.N_drew)); exact (Kd.N_mono (Kd.N_far (p := ⟨gb539, 1, none⟩) (Kd.N_far (p := ⟨gb539, 0, none⟩) (Kd.N_mono HO_3.out (fun k_ hk => (⟨hk, hk.2⟩ : _ ∧ k_ ≠ gb539))) (fun _ hk => hk.2) (.string ((rd_T38 t535 x4_1).f0.f0))) (fun _ hk => hk.2) (.string ((rd_T38 t535 x4_1).f0.f1))) (fun _ h_ => h_.1))) hb); replace HR538_2 := aZ_ (Kd.C_below ((Kd.V_reads' (by (with_reducible repeat (first | apply Kd.V_alloc | apply Kd.V_drewN | apply Kd.V_drew)); exact (Kd.V_mono (Kd.V_far (p := ⟨gb539, 1, none⟩) (Kd.V_far (p := ⟨gb539, 0, none⟩) (Kd.V_mono HL538_2.out (fun k_ hk => (⟨hk, hk.2⟩ : _ ∧ k_ ≠ gb539))) (fun _ hk => hk.2) (.string ((rd_T38 t535 x4_1).f0.f0))) (fun _ hk => hk.2) (.string ((rd_T38 t535 x4_1).f0.f1))) (fun _ h_ => h_.1)))).2.2) hb); replace HL538_2 := aZ_ (Kd.V_below (by (with_reducible repeat (first | apply Kd.V_alloc | apply Kd.V_drewN | apply Kd.V_drew)); exact (Kd.V_mono (Kd.V_far (p := ⟨gb539, 1, none⟩) (Kd.V_far (p := ⟨gb539, 0, none⟩) (Kd.V_mono HL538_2.out (fun k_ hk => (⟨hk, hk.2⟩ : _ ∧ k_ ≠ gb539))) (fun _ hk => hk.2) (.string ((rd_T38 t535 x4_1).f0.f0))) (fun _ hk => hk.2) (.string ((rd_T38 t535 x4_1).f0.f1))) (fun _ h_ => h_.1))) hb); replace HR538_3 := aZ_ (Kd.C_below ((Kd.V_reads' (by (with_reducible repeat (first | apply Kd.V_alloc | apply Kd.V_drewN | apply Kd.V_drew)); exact (Kd.V_mono (Kd.V_far (p := ⟨gb539, 1, none⟩) (Kd.V_far (p := ⟨gb539, 0, none⟩) (Kd.V_mono HL538_3.out (fun k_ hk => (⟨hk, hk.2⟩ : _ ∧ k_ ≠ gb539))) (fun _ hk => hk.2) (.string ((rd_T38 t535 x4_1).f0.f0))) (fun _ hk => hk.2) (.string ((rd_T38 t535 x4_1).f0.f1))) (fun _ h_ => h_.1)))).2.2) hb); replace HL538_3 := aZ_ (Kd.V_below (by (with_reducible repeat (first | apply Kd.V_alloc | apply Kd.V_drewN | apply Kd.V_drew)); exact (Kd.V_mono (Kd.V_far (p := ⟨gb539, 1, none⟩) (Kd.V_far (p := ⟨gb539, 0, none⟩) (Kd.V_mono HL538_3.out (fun k_ hk => (⟨hk, hk.2⟩ : _ ∧ k_ ≠ gb539))) (fun _ hk => hk.2) (.string ((rd_T38 t535 x4_1).f0.f0))) (fun _ hk => hk.2) (.string ((rd_T38 t535 x4_1).f0.f1))) (fun _ h_ => h_.1))) hb); replace BK539 := aZ_ (blk_below (g := gb539) (o := .cells #[.string ((rd_T38 t535 x4_1).f0.f0), .string ((rd_T38 t535 x4_1).f0.f1)] 28 (0, 0)) (by (with_reducible repeat (first | refine blk_drewN ?_ _ | refine blk_drew ?_ | refine blk_alloc ?_ _)); refine blk_put (cs := #[.string ((rd_T38 t535 x4_1).f0.f0), .string (⟨#[]⟩ : ByteArray)]) ?_ 1 _ rfl; (with_reducible repeat (first | refine blk_drewN ?_ _ | refine blk_drew ?_ | refine blk_alloc ?_ _)); refine blk_put (cs := #[.string (⟨#[]⟩ : ByteArray), .string (⟨#[]⟩ : ByteArray)]) ?_ 0 _ rfl; (with_reducible repeat (first | refine blk_drewN ?_ _ | refine blk_drew ?_ | refine blk_alloc ?_ _)); exact BK539.out) hb); replace HB := aZ_ (below_step (bl1 HB GE539) hb); (try clear hb); (try clear hb2); (try clear hk); (try clear hi); obtain ⟨hcz16_0, hcz16_1, hfz16_0, hfz16_1⟩ := bc2 BK539) | ((with_reducible refine gate_callee (f := 19) rfl ?_); refine goesL_ (some 35) rfl rfl Try.func19 (by kernel_rfl) rfl #[.slice (some ad538) t535.length co12, .agg #[.string ((rd_T38 t535 x4_1).f0.f0), .string ((rd_T38 t535 x4_1).f0.f1)]] rfl gm_ ?_; (with_reducible refine (above_Above.calls _ _ t535 ((rd_T38 t535 x4_1).f0.f0) ((rd_T38 t535 x4_1).f0.f1) t541 _ ?side1 ?side2 A11.out).mono ?_); (case side1 => repeat (first | exact (Kd.N_reads' HO_3.out).2.2 | (with_reducible refine Kd.C_alloc ?_ _) | (with_reducible refine Kd.C_drewN ?_ _) | (with_reducible refine Kd.C_drew ?_))); (case side2 => exact (Kd.N_reads' HO_3.out).2.1); rintro e w17 ⟨v542, rfl, ho0, hb⟩; refine ⟨_, rfl, ?_⟩; replace HL538_2 := aZ_ (Kd.V_below (kV HL538_2) hb); replace HL538_3 := aZ_ (Kd.V_below (kV HL538_3) hb); have HO543 := aZ_ (Kd.V_lower (Kd.V_mono (ok' := fun k_ => some k_ ≠ (.slice (some ad538) t535.length co12 : Value).ownBlock ∧ k_ ≠ gb539) ho0 (fun k_ hk_ => ⟨(Kd.fresh' (Kd.N_lt (kN HO_3)) k_ hk_), (Kd.freshB (g := gb539) (o := .cells #[.string ((rd_T38 t535 x4_1).f0.f0), .string ((rd_T38 t535 x4_1).f0.f1)] 28 (0, 0)) (bk BK539) k_ hk_)⟩)) (below_size (bl1 HB GE539))); replace HO_3 := aZ_ (Kd.N_below (kN HO_3) hb); replace HR538_2 := aZ_ (Kd.C_below (kD HR538_2) hb); replace HR538_3 := aZ_ (Kd.C_below (kD HR538_3) hb); replace BK539 := aZ_ (blk_below (g := gb539) (o := .cells #[.string ((rd_T38 t535 x4_1).f0.f0), .string ((rd_T38 t535 x4_1).f0.f1)] 28 (0, 0)) (bk BK539) hb); replace HB := aZ_ (below_step (bl1 HB GE539) hb); (try clear hb); (try clear hb2); (try clear hk); (try clear hi); (try clear ho0)))
       go_loopg [7] k1 (fun kq v7 w' => ∃ (x7_2 : Int), v7 = .int .i64 x7_2 ∧ Aside0 (chancellaw9_AboveGoes.l1 kq t535 x4_1 t541 x7_2 ((rd_T38 t535 x4_1).f0.f0) ((rd_T38 t535 x4_1).f0.f1) = some r) ∧ Aside0 (kq ≤ k1) ∧ Aside0 (Kd.N k38 38 w' w.heap.size (fun k_ => k_ ≠ gb539) (.slice (some ad538) t535.length co12) t535) ∧ Aside0 (Kd.V k28 28 w' w.heap.size (fun k_ => some k_ ≠ ((.slice (some ad538) t535.length co12) : Value).ownBlock ∧ k_ ≠ gb539) v542 t541) ∧ Aside0 (w'.heap[gb539]? = some (.cells #[.string ((rd_T38 t535 x4_1).f0.f0), .string ((rd_T38 t535 x4_1).f0.f1)] 28 (0, 0))) ∧ Aside0 (Kd.C k28 w' A538_2 ((rd_T38 t535 x4_1).f1).length ((rd_T38 t535 x4_1).f1)) ∧ Aside0 (Kd.C k58 w' A538_3 ((rd_T38 t535 x4_1).f2).length ((rd_T38 t535 x4_1).f2)) ∧ Aside0 (Below w.heap.size w w'))
       case atStart => exact ⟨(0), rf_, H', ⟨Nat.le_refl _⟩, ⟨by (with_reducible repeat (first | apply Kd.N_alloc | apply Kd.N_drewN | apply Kd.N_drew)); exact Kd.N_mono HO_3.out (fun _ hk => hk.2)⟩, ⟨kV HO543⟩, ⟨bk BK539⟩, ⟨kD HR538_2⟩, ⟨kD HR538_3⟩, ⟨bl1 HB GE539⟩⟩
       case round =>
        clear H'
        try clear c1
        try clear p2
        try clear c3
        try clear c4
        try clear c5
        try clear p5
        try clear q5
        try clear hx5
        try clear c7
        try clear c7b0
        try clear c8
        try clear c8b0
        try clear c10
        try clear c13
        try clear c14
        try clear c16
        try clear hcz14_0
        try clear hcz14_1
        try clear hcz16_0
        try clear hcz16_1
        try clear hfz14_0
        try clear hfz14_1
        try clear hfz16_0
        try clear hfz16_1
        try clear hx538_0
        try clear hx538_1
        try clear hx538_2
        try clear hx538_3
        try clear p2
        try clear p538
        try clear q538
        obtain ⟨x7_2, rfl, HA, HK2, HO_3, HO_6, BK539, HR538_2, HR538_3, HB⟩ := hrel
        cases gk with
        | zero => exact absurd HA.out (by simp [chancellaw9_AboveGoes.l1])
        | succ k2 =>
         have H := HA.out
         clear HA
         simp only [chancellaw9_AboveGoes.l1] at H
         by_cases c18 : x7_2 < (t541.length : Int)
         ·
          rw [if_pos c18] at H
          have c18b0 : decide (x7_2 < (t541.length : Int)) = true := decide_eq_true c18
          clear c18
          have H' := aZ_ H
          clear H
          obtain ⟨Ao19, co19, eo19⟩ := Kd.V_slice HO_6.out
          subst eo19
          go_wp2
          go_loopg [8, 9] k2 (fun kq v8 v9 w' => ∃ (x8_3 : Bool) (x9_3 : Int), v8 = .bool x8_3 ∧ v9 = .int .i64 x9_3 ∧ Aside0 (chancellaw9_AboveGoes.l2 kq t535 x4_1 t541 x7_2 x8_3 x9_3 ((rd_T38 t535 x4_1).f0.f0) ((rd_T38 t535 x4_1).f0.f1) = some r) ∧ Aside0 (kq ≤ k2) ∧ Aside0 (Kd.N k38 38 w' w.heap.size (fun k_ => k_ ≠ gb539) (.slice (some ad538) t535.length co12) t535) ∧ Aside0 (Kd.V k28 28 w' w.heap.size (fun k_ => some k_ ≠ ((.slice (some ad538) t535.length co12) : Value).ownBlock ∧ k_ ≠ gb539) (.slice Ao19 t541.length co19) t541) ∧ Aside0 (w'.heap[gb539]? = some (.cells #[.string ((rd_T38 t535 x4_1).f0.f0), .string ((rd_T38 t535 x4_1).f0.f1)] 28 (0, 0))) ∧ Aside0 (Kd.C k28 w' A538_2 ((rd_T38 t535 x4_1).f1).length ((rd_T38 t535 x4_1).f1)) ∧ Aside0 (Kd.C k58 w' A538_3 ((rd_T38 t535 x4_1).f2).length ((rd_T38 t535 x4_1).f2)) ∧ Aside0 (Below w.heap.size w w'))
          case atStart => exact ⟨(false), (0), rf_, rf_, H', ⟨Nat.le_refl _⟩, ⟨kN HO_3⟩, ⟨kV HO_6⟩, ⟨bk BK539⟩, ⟨kD HR538_2⟩, ⟨kD HR538_3⟩, ⟨bl1 HB GE539⟩⟩
          case round =>
           clear H'
           try clear c1
           try clear p2
           try clear c3
           try clear c4
           try clear c5
           try clear p5
           try clear q5
           try clear hx5
           try clear c7
           try clear c7b0
           try clear c8
           try clear c8b0
           try clear c10
           try clear c13
           try clear c14
           try clear c16
           try clear c18
           try clear c18b0
           try clear c19
           try clear hcz14_0
           try clear hcz14_1
           try clear hcz16_0
           try clear hcz16_1
           try clear hfz14_0
           try clear hfz14_1
           try clear hfz16_0
           try clear hfz16_1
           try clear hx538_0
           try clear hx538_1
           try clear hx538_2
           try clear hx538_3
           try clear p2
           try clear p5
           try clear p538
           try clear q5
           try clear q538
           obtain ⟨x8_3, x9_3, rfl, rfl, HA, HK3, HO_3, HO_6, BK539, HR538_2, HR538_3, HB⟩ := hrel
           cases gk with
           | zero => exact absurd HA.out (by simp [chancellaw9_AboveGoes.l2])
           | succ k3 =>
            have H := HA.out
            clear HA
            simp only [chancellaw9_AboveGoes.l2] at H
            by_cases c20 : 0 ≤ x4_1
            ·
             rw [if_pos c20] at H
             have c20b0 : decide (0 ≤ x4_1) = true := decide_eq_true c20
             clear c20
             by_cases c21 : x4_1 < (t535.length : Int)
             ·
              rw [if_pos c21] at H
              have c21b0 : decide (x4_1 < (t535.length : Int)) = true := decide_eq_true c21
              clear c21
              by_cases c22 : x9_3 < (((rd_T38 t535 x4_1).f1).length : Int)
              ·
               rw [if_pos c22] at H
               have c22b0 : decide (x9_3 < (((rd_T38 t535 x4_1).f1).length : Int)) = true := decide_eq_true c22
               clear c22
               by_cases c23 : x8_3 = true
               ·
                subst c23
                have H1 : (chancellaw9_AboveGoes.l2 k3 t535 x4_1 t541 x7_2 true (wrap64 (x9_3 + 1)) ((rd_T38 t535 x4_1).f0.f0) ((rd_T38 t535 x4_1).f0.f1)) = some r := by rw [if_pos rfl] at H; exact H
                clear H
                have H := H1
                clear H1
                have H' := aZ_ H
                clear H
                have p544 : 0 ≤ (x4_1 : Int) := of_decide_eq_true asm_
                have q544 : x4_1 < (t535.length : Int) := of_decide_eq_true asm_
                obtain ⟨ad544, A544_2, c544_2, A544_3, c544_3, e544, hx544_0, hx544_1, hx544_2, hx544_3, hl544_2, hi544_2, hl544_3, hi544_3⟩ := at_T38 (Kd.N_reads' HO_3.out).2.2 x4_1 p544 q544
                obtain rfl : ad538 = ad544 := (by injection e544)
                obtain ⟨ce544, hce544, hMe544, hcc544⟩ := Kd.N_get HO_3.out z38 x4_1 p544 (by first | exact q544 | exact of_decide_eq_true asm_ | (have e_ := (Kd.N_reads' HO_3.out).1; omega))
                obtain ⟨ua544_2, uc544_2, ua544_3, uc544_3, rfl, ul544_2, ge544_2, ul544_3, ge544_3⟩ := k38_openF hMe544
                have hv544_2 := hcc544 2 _ rfl
                rw [add_field _ _ 2 (by omega)] at hv544_2
                replace hv544_2 := Option.some.inj (hv544_2.symm.trans hx544_2)
                injection hv544_2 with hva_ hvn_ hvc_
                rw [hva_] at ge544_2
                rw [hvc_] at ul544_2
                have HL544_2 := aZ_ (show Kd.V k28 28 _ w.heap.size _ _ ((rd_T38 t535 x4_1).f1) from Kd.V_mk ul544_2 ge544_2)
                clear hva_ hvn_ hvc_ ge544_2 ul544_2
                have hv544_3 := hcc544 3 _ rfl
                rw [add_field _ _ 3 (by omega)] at hv544_3
                replace hv544_3 := Option.some.inj (hv544_3.symm.trans hx544_3)
                injection hv544_3 with hva_ hvn_ hvc_
                rw [hva_] at ge544_3
                rw [hvc_] at ul544_3
                have HL544_3 := aZ_ (show Kd.V k58 58 _ w.heap.size _ _ ((rd_T38 t535 x4_1).f2) from Kd.V_mk ul544_3 ge544_3)
                clear hva_ hvn_ hvc_ ge544_3 ul544_3
                clear hcc544 hce544
                have HR544_2 := aZ_ hi544_2
                have HC544_2 := aZ_ hl544_2
                clear hi544_2 hl544_2
                have HR544_3 := aZ_ hi544_3
                have HC544_3 := aZ_ hl544_3
                clear hi544_3 hl544_3
                replace p544 := eq_true p544
                replace q544 := eq_true q544
                try go_wp2
                replace HO_3 := aZ_ (Kd.N_drew HO_3.out)
                replace HO_6 := aZ_ (Kd.V_drew HO_6.out)
                replace HL544_2 := aZ_ (Kd.V_drew HL544_2.out)
                replace HL544_3 := aZ_ (Kd.V_drew HL544_3.out)
                replace BK539 := aZ_ (blk_drew BK539.out)
                replace HR538_2 := aZ_ (Kd.C_drew HR538_2.out)
                replace HR538_3 := aZ_ (Kd.C_drew HR538_3.out)
                replace HR544_2 := aZ_ (Kd.C_drew HR544_2.out)
                replace HR544_3 := aZ_ (Kd.C_drew HR544_3.out)
                replace HB := aZ_ (below_drew1 HB.out)
                refine start_ (n := 18) (S := fun w' => True) (ds := []) #[false, false, false, false, false, false, false, false, false, false, false, false, false, false, false, false, false, false] (by kernel_rfl) rfl rfl trivial (fun hHeld => ?_); refine with_tabW chancellaw9_AboveGoes.tab18 chancellaw9_AboveGoes.bits18 (fun HT_ HW_ => ?_)
                generalize wr.drew = w24 at HO_3 HO_6 HL544_2 HL544_3 BK539 HR538_2 HR538_3 HR544_2 HR544_3 HB hHeld ⊢
                refine pS_ 0 52 (fa 18 1) HT_ ?_
                refine pS_ 1 53 (fa 18 3) HT_ ?_
                refine pU_ 2 54 (fa 18 7) HT_ ?_
                refine pU_ 3 55 (fa 18 15) HT_ ?_
                refine pU_ 4 56 (fa 18 31) HT_ ?_
                refine pU_ 5 57 (fa 18 63) HT_ ?_
                refine pU_ 6 58 (fa 18 127) HT_ ?_
                refine pU_ 7 59 (fa 18 255) HT_ ?_
                refine pU_ 8 60 (fa 18 511) HT_ ?_
                refine pU_ 9 61 (fa 18 1023) HT_ ?_
                refine pU_ 10 62 (fa 18 2047) HT_ ?_
                refine pU_ 11 63 (fa 18 4095) HT_ ?_
                refine pU_ 12 64 (fa 18 8191) HT_ ?_
                refine pU_ 13 65 (fa 18 16383) HT_ ?_
                refine pU_ 14 66 (fa 18 32767) HT_ ?_
                refine pU_ 15 67 (fa 18 65535) HT_ ?_
                refine pS_ 16 68 (fa 18 131071) HT_ ?_
                refine pS_ 17 8 (fa 18 262143) HT_ ?_
                refine done_ (done_of HT_.out (by kernel_rfl)) ?_
                try go_wp2
                go_roundg k3
                case measure => have := HK1.out; have := HK2.out; have := HK3.out; omega
                case rel => exact ⟨(true), (wrap64 (x9_3 + 1)), rf_, rf_, H', ⟨by have := HK1.out; have := HK2.out; have := HK3.out; omega⟩, ⟨kN HO_3⟩, ⟨kV HO_6⟩, ⟨bk BK539⟩, ⟨kD HR538_2⟩, ⟨kD HR538_3⟩, ⟨bl1 HB GE539⟩⟩
               ·
                replace c23 := Bool.eq_false_iff.mpr c23
                subst c23
                have H1 : (if 0 ≤ x9_3 then (if 0 ≤ x7_2 then (if x7_2 < (t541.length : Int) then ((above_In.f t535 ((rd_T28 ((rd_T38 t535 x4_1).f1) x9_3).f0) ((rd_T28 ((rd_T38 t535 x4_1).f1) x9_3).f1) ((rd_T28 t541 x7_2).f0) ((rd_T28 t541 x7_2).f1)).bind fun t548 => (chancellaw9_AboveGoes.l2 k3 t535 x4_1 t541 x7_2 t548 (wrap64 (x9_3 + 1)) ((rd_T38 t535 x4_1).f0.f0) ((rd_T38 t535 x4_1).f0.f1))) else (none)) else (none)) else (none)) = some r := by rw [if_neg (show ¬ (false = true) by decide)] at H; exact H
                clear H
                have H := H1
                clear H1
                by_cases c25 : 0 ≤ x9_3
                ·
                 rw [if_pos c25] at H
                 have c25b0 : decide (0 ≤ x9_3) = true := decide_eq_true c25
                 clear c25
                 by_cases c26 : 0 ≤ x7_2
                 ·
                  rw [if_pos c26] at H
                  have c26b0 : decide (0 ≤ x7_2) = true := decide_eq_true c26
                  clear c26
                  by_cases c27 : x7_2 < (t541.length : Int)
                  ·
                   rw [if_pos c27] at H
                   have c27b0 : decide (x7_2 < (t541.length : Int)) = true := decide_eq_true c27
                   clear c27
                   replace H := Option.bind_eq_some_iff.mp H
                   obtain ⟨t548, A280, H⟩ := H
                   replace H : (chancellaw9_AboveGoes.l2 k3 t535 x4_1 t541 x7_2 t548 (wrap64 (x9_3 + 1)) ((rd_T38 t535 x4_1).f0.f0) ((rd_T38 t535 x4_1).f0.f1)) = some r := H
                   have A28 := aZ_ A280
                   clear A280
                   have H' := aZ_ H
                   clear H
                   have p544 : 0 ≤ (x4_1 : Int) := of_decide_eq_true asm_
                   have q544 : x4_1 < (t535.length : Int) := of_decide_eq_true asm_
                   obtain ⟨ad544, A544_2, c544_2, A544_3, c544_3, e544, hx544_0, hx544_1, hx544_2, hx544_3, hl544_2, hi544_2, hl544_3, hi544_3⟩ := at_T38 (Kd.N_reads' HO_3.out).2.2 x4_1 p544 q544
                   obtain rfl : ad538 = ad544 := (by injection e544)
                   obtain ⟨ce544, hce544, hMe544, hcc544⟩ := Kd.N_get HO_3.out z38 x4_1 p544 (by first | exact q544 | exact of_decide_eq_true asm_ | (have e_ := (Kd.N_reads' HO_3.out).1; omega))
                   obtain ⟨ua544_2, uc544_2, ua544_3, uc544_3, rfl, ul544_2, ge544_2, ul544_3, ge544_3⟩ := k38_openF hMe544
                   have hv544_2 := hcc544 2 _ rfl
                   rw [add_field _ _ 2 (by omega)] at hv544_2
                   replace hv544_2 := Option.some.inj (hv544_2.symm.trans hx544_2)
                   injection hv544_2 with hva_ hvn_ hvc_
                   rw [hva_] at ge544_2
                   rw [hvc_] at ul544_2
                   have HL544_2 := aZ_ (show Kd.V k28 28 _ w.heap.size _ _ ((rd_T38 t535 x4_1).f1) from Kd.V_mk ul544_2 ge544_2)
                   clear hva_ hvn_ hvc_ ge544_2 ul544_2
                   have hv544_3 := hcc544 3 _ rfl
                   rw [add_field _ _ 3 (by omega)] at hv544_3
                   replace hv544_3 := Option.some.inj (hv544_3.symm.trans hx544_3)
                   injection hv544_3 with hva_ hvn_ hvc_
                   rw [hva_] at ge544_3
                   rw [hvc_] at ul544_3
                   have HL544_3 := aZ_ (show Kd.V k58 58 _ w.heap.size _ _ ((rd_T38 t535 x4_1).f2) from Kd.V_mk ul544_3 ge544_3)
                   clear hva_ hvn_ hvc_ ge544_3 ul544_3
                   clear hcc544 hce544
                   have HR544_2 := aZ_ hi544_2
                   have HC544_2 := aZ_ hl544_2
                   clear hi544_2 hl544_2
                   have HR544_3 := aZ_ hi544_3
                   have HC544_3 := aZ_ hl544_3
                   clear hi544_3 hl544_3
                   replace p544 := eq_true p544
                   replace q544 := eq_true q544
                   try go_wp2
                   replace HO_3 := aZ_ (Kd.N_drew HO_3.out)
                   replace HO_6 := aZ_ (Kd.V_drew HO_6.out)
                   replace HL544_2 := aZ_ (Kd.V_drew HL544_2.out)
                   replace HL544_3 := aZ_ (Kd.V_drew HL544_3.out)
                   replace BK539 := aZ_ (blk_drew BK539.out)
                   replace HR538_2 := aZ_ (Kd.C_drew HR538_2.out)
                   replace HR538_3 := aZ_ (Kd.C_drew HR538_3.out)
                   replace HR544_2 := aZ_ (Kd.C_drew HR544_2.out)
                   replace HR544_3 := aZ_ (Kd.C_drew HR544_3.out)
                   replace HB := aZ_ (below_drew1 HB.out)
                   have p545 : 0 ≤ (x4_1 : Int) := of_decide_eq_true asm_
                   have q545 : x4_1 < (t535.length : Int) := of_decide_eq_true asm_
                   obtain ⟨ad545, A545_2, c545_2, A545_3, c545_3, e545, hx545_0, hx545_1, hx545_2, hx545_3, hl545_2, hi545_2, hl545_3, hi545_3⟩ := at_T38 (Kd.N_reads' HO_3.out).2.2 x4_1 p545 q545
                   obtain rfl : ad538 = ad545 := (by injection e545)
                   obtain ⟨ce545, hce545, hMe545, hcc545⟩ := Kd.N_get HO_3.out z38 x4_1 p545 (by first | exact q545 | exact of_decide_eq_true asm_ | (have e_ := (Kd.N_reads' HO_3.out).1; omega))
                   obtain ⟨ua545_2, uc545_2, ua545_3, uc545_3, rfl, ul545_2, ge545_2, ul545_3, ge545_3⟩ := k38_openF hMe545
                   have hv545_2 := hcc545 2 _ rfl
                   rw [add_field _ _ 2 (by omega)] at hv545_2
                   replace hv545_2 := Option.some.inj (hv545_2.symm.trans hx545_2)
                   injection hv545_2 with hva_ hvn_ hvc_
                   rw [hva_] at ge545_2
                   rw [hvc_] at ul545_2
                   have HL545_2 := aZ_ (show Kd.V k28 28 _ w.heap.size _ _ ((rd_T38 t535 x4_1).f1) from Kd.V_mk ul545_2 ge545_2)
                   clear hva_ hvn_ hvc_ ge545_2 ul545_2
                   have hv545_3 := hcc545 3 _ rfl
                   rw [add_field _ _ 3 (by omega)] at hv545_3
                   replace hv545_3 := Option.some.inj (hv545_3.symm.trans hx545_3)
                   injection hv545_3 with hva_ hvn_ hvc_
                   rw [hva_] at ge545_3
                   rw [hvc_] at ul545_3
                   have HL545_3 := aZ_ (show Kd.V k58 58 _ w.heap.size _ _ ((rd_T38 t535 x4_1).f2) from Kd.V_mk ul545_3 ge545_3)
                   clear hva_ hvn_ hvc_ ge545_3 ul545_3
                   clear hcc545 hce545
                   have HR545_2 := aZ_ hi545_2
                   have HC545_2 := aZ_ hl545_2
                   clear hi545_2 hl545_2
                   have HR545_3 := aZ_ hi545_3
                   have HC545_3 := aZ_ hl545_3
                   clear hi545_3 hl545_3
                   replace p545 := eq_true p545
                   replace q545 := eq_true q545
                   have p546 : 0 ≤ (x9_3 : Int) := of_decide_eq_true asm_
                   have q546 : x9_3 < (((rd_T38 t535 x4_1).f1).length : Int) := of_decide_eq_true asm_
                   obtain ⟨ad546, e546, hx546_0, hx546_1⟩ := at_T28 (kD HR545_2) x9_3 p546 q546
                   cases e546
                   replace p546 := eq_true p546
                   replace q546 := eq_true q546
                   have p547 : 0 ≤ (x7_2 : Int) := of_decide_eq_true asm_
                   have q547 : x7_2 < (t541.length : Int) := of_decide_eq_true asm_
                   obtain ⟨ad547, e547, hx547_0, hx547_1⟩ := at_T28 (Kd.V_reads' HO_6.out).2.2 x7_2 p547 q547
                   cases e547
                   replace p547 := eq_true p547
                   replace q547 := eq_true q547
                   refine start_ (n := 18) (S := fun w' => w'.cell? (ad538.add ((x4_1).toNat * 4)) = some (.string ((rd_T38 t535 x4_1).f0.f0)) ∧ w'.cell? ⟨(ad538.add ((x4_1).toNat * 4)).block, (ad538.add ((x4_1).toNat * 4)).off + 1, none⟩ = some (.string ((rd_T38 t535 x4_1).f0.f1)) ∧ w'.cell? ⟨(ad538.add ((x4_1).toNat * 4)).block, (ad538.add ((x4_1).toNat * 4)).off + 2, none⟩ = some (.slice (some ad546) ((rd_T38 t535 x4_1).f1).length c545_2) ∧ w'.cell? ⟨(ad538.add ((x4_1).toNat * 4)).block, (ad538.add ((x4_1).toNat * 4)).off + 3, none⟩ = some (.slice A545_3 ((rd_T38 t535 x4_1).f2).length c545_3) ∧ w'.cell? (ad546.add ((x9_3).toNat * 2)) = some (.string ((rd_T28 ((rd_T38 t535 x4_1).f1) x9_3).f0)) ∧ w'.cell? ⟨(ad546.add ((x9_3).toNat * 2)).block, (ad546.add ((x9_3).toNat * 2)).off + 1, none⟩ = some (.string ((rd_T28 ((rd_T38 t535 x4_1).f1) x9_3).f1)) ∧ w'.cell? (ad547.add ((x7_2).toNat * 2)) = some (.string ((rd_T28 t541 x7_2).f0)) ∧ w'.cell? ⟨(ad547.add ((x7_2).toNat * 2)).block, (ad547.add ((x7_2).toNat * 2)).off + 1, none⟩ = some (.string ((rd_T28 t541 x7_2).f1))) (ds := []) #[false, false, false, false, false, false, false, false, false, false, false, false, false, false, false, false, false, false] (by kernel_rfl) rfl rfl ⟨hx545_0, hx545_1, hx545_2, hx545_3, hx546_0, hx546_1, hx547_0, hx547_1⟩ (fun hHeld => ?_); refine with_tabW chancellaw9_AboveGoes.tab18 chancellaw9_AboveGoes.bits18 (fun HT_ HW_ => ?_)
                   generalize wr.drew = w29 at HO_3 HO_6 HL544_2 HL544_3 BK539 HR538_2 HR538_3 HR544_2 HR544_3 HB HL545_2 HL545_3 HR545_2 HR545_3 hx545_0 hx545_1 hx545_2 hx545_3 hx546_0 hx546_1 hx547_0 hx547_1 hHeld ⊢
                   refine pS_ 0 52 (fa 18 1) HT_ ?_
                   refine pS_ 1 53 (fa 18 3) HT_ ?_
                   refine pS_ 2 54 (fa 18 7) HT_ ?_
                   refine pS_ 3 55 (fa 18 15) HT_ ?_
                   refine pS_ 4 56 (fa 18 31) HT_ ?_
                   refine pS_ 5 57 (fa 18 63) HT_ ?_
                   refine pS_ 6 58 (fa 18 127) HT_ ?_
                   refine pS_ 8 60 (fa 18 383) HT_ ?_
                   refine pS_ 11 63 (fa 18 2431) HT_ ?_
                   refine pS_ 12 64 (fa 18 6527) HT_ ?_
                   refine pS_ 13 65 (fa 18 14719) HT_ ?_
                   refine tS_ 7 59 (fa 18 14847) HT_ HW_ hHeld ?_
                   refine pS_ 9 61 (fa 18 15359) HT_ ?_
                   refine tS_ 10 62 (fa 18 16383) HT_ HW_ hHeld ?_
                   refine tS_ 14 66 (fa 18 32767) HT_ HW_ hHeld ?_
                   refine one_ (i := 15) (N := some 67) #[true, true, true, true, true, true, true, true, true, true, true, true, true, true, true, true, false, false] rfl rfl (one_of HT_.out (by kernel_rfl)) (by decide) (fun K hK => ?_)
                   refine goes_ Try.func16 (by kernel_rfl) rfl #[.slice (some ad538) t535.length co12, .agg #[.string ((rd_T28 ((rd_T38 t535 x4_1).f1) x9_3).f0), .string ((rd_T28 ((rd_T38 t535 x4_1).f1) x9_3).f1)], .agg #[.string ((rd_T28 t541 x7_2).f0), .string ((rd_T28 t541 x7_2).f1)]] (by rfl) rfl rfl gm_ ?_
                   with_reducible refine (above_In.calls _ _ t535 ((rd_T28 ((rd_T38 t535 x4_1).f1) x9_3).f0) ((rd_T28 ((rd_T38 t535 x4_1).f1) x9_3).f1) ((rd_T28 t541 x7_2).f0) ((rd_T28 t541 x7_2).f1) t548 _ ?side1 ?side2 A28.out).mono ?_
                   (case side1 => repeat (first | exact (Kd.N_reads' HO_3.out).2.2 | (with_reducible refine Kd.C_alloc ?_ _) | (with_reducible refine Kd.C_drewN ?_ _) | (with_reducible refine Kd.C_drew ?_)))
                   (case side2 => exact (Kd.N_reads' HO_3.out).2.1)
                   rintro e w30 ⟨rfl, hb⟩
                   have HS0_ := (hbc hb (hHeld.1) :)
                   have HS1_ := (hbc hb (hHeld.2.1) :)
                   have HS2_ := (hbc hb (hHeld.2.2.1) :)
                   have HS3_ := (hbc hb (hHeld.2.2.2.1) :)
                   have HS4_ := (hbc hb (hHeld.2.2.2.2.1) :)
                   have HS5_ := (hbc hb (hHeld.2.2.2.2.2.1) :)
                   have HS6_ := (hbc hb (hHeld.2.2.2.2.2.2.1) :)
                   have HS7_ := (hbc hb (hHeld.2.2.2.2.2.2.2) :)
                   refine ⟨_, rfl, ?_⟩
                   replace HO_3 := aZ_ (Kd.N_below (kN HO_3) hb)
                   replace HO_6 := aZ_ (Kd.V_below (kV HO_6) hb)
                   replace HL544_2 := aZ_ (Kd.V_below (kV HL544_2) hb)
                   replace HL544_3 := aZ_ (Kd.V_below (kV HL544_3) hb)
                   replace HL545_2 := aZ_ (Kd.V_below (kV HL545_2) hb)
                   replace HL545_3 := aZ_ (Kd.V_below (kV HL545_3) hb)
                   replace BK539 := aZ_ (blk_below (g := gb539) (o := .cells #[.string ((rd_T38 t535 x4_1).f0.f0), .string ((rd_T38 t535 x4_1).f0.f1)] 28 (0, 0)) (bk BK539) hb)
                   replace HR538_2 := aZ_ (Kd.C_below (kD HR538_2) hb)
                   replace HR538_3 := aZ_ (Kd.C_below (kD HR538_3) hb)
                   replace HR544_2 := aZ_ (Kd.C_below (kD HR544_2) hb)
                   replace HR544_3 := aZ_ (Kd.C_below (kD HR544_3) hb)
                   replace HR545_2 := aZ_ (Kd.C_below (kD HR545_2) hb)
                   replace HR545_3 := aZ_ (Kd.C_below (kD HR545_3) hb)
                   replace HB := aZ_ (below_step (bl1 HB GE539) hb)
                   (try clear hb)
                   (try clear hb2)
                   (try clear hk)
                   (try clear hi)
                   refine hK.out _ _ ⟨HS0_, HS1_, HS2_, HS3_, HS4_, HS5_, HS6_, HS7_⟩ (fun hHeld => ?_)
                   clear hK K
                   refine norm_ (a' := ?_) ?_ ?_
                   rotate_left
                   ·
                    show Act.put _ (some 67) _ = _
                    simp only [Act.put, List.setIfInBounds_toArray, List.set_cons_zero, List.set_cons_succ, i64_w, i32_w]
                    rfl
                   refine pS_ 16 68 (fa 18 131071) HT_ ?_
                   refine pS_ 17 8 (fa 18 262143) HT_ ?_
                   refine done_ (done_of HT_.out (by kernel_rfl)) ?_
                   try go_wp2
                   go_roundg k3
                   case measure => have := HK1.out; have := HK2.out; have := HK3.out; omega
                   case rel => exact ⟨(t548), (wrap64 (x9_3 + 1)), rf_, rf_, H', ⟨by have := HK1.out; have := HK2.out; have := HK3.out; omega⟩, ⟨kN HO_3⟩, ⟨kV HO_6⟩, ⟨bk BK539⟩, ⟨kD HR538_2⟩, ⟨kD HR538_3⟩, ⟨bl1 HB GE539⟩⟩
                  ·
                   rw [if_neg c27] at H
                   exact absurd H (by simp)
                 ·
                  rw [if_neg c26] at H
                  exact absurd H (by simp)
                ·
                 rw [if_neg c25] at H
                 exact absurd H (by simp)
              ·
               rw [if_neg c22] at H
               have c22b0 : decide (x9_3 < (((rd_T38 t535 x4_1).f1).length : Int)) = false := decide_eq_false c22
               clear c22
               have HC31 := aZ_ H
               clear H
               have p544 : 0 ≤ (x4_1 : Int) := of_decide_eq_true asm_
               have q544 : x4_1 < (t535.length : Int) := of_decide_eq_true asm_
               obtain ⟨ad544, A544_2, c544_2, A544_3, c544_3, e544, hx544_0, hx544_1, hx544_2, hx544_3, hl544_2, hi544_2, hl544_3, hi544_3⟩ := at_T38 (Kd.N_reads' HO_3.out).2.2 x4_1 p544 q544
               obtain rfl : ad538 = ad544 := (by injection e544)
               obtain ⟨ce544, hce544, hMe544, hcc544⟩ := Kd.N_get HO_3.out z38 x4_1 p544 (by first | exact q544 | exact of_decide_eq_true asm_ | (have e_ := (Kd.N_reads' HO_3.out).1; omega))
               obtain ⟨ua544_2, uc544_2, ua544_3, uc544_3, rfl, ul544_2, ge544_2, ul544_3, ge544_3⟩ := k38_openF hMe544
               have hv544_2 := hcc544 2 _ rfl
               rw [add_field _ _ 2 (by omega)] at hv544_2
               replace hv544_2 := Option.some.inj (hv544_2.symm.trans hx544_2)
               injection hv544_2 with hva_ hvn_ hvc_
               rw [hva_] at ge544_2
               rw [hvc_] at ul544_2
               have HL544_2 := aZ_ (show Kd.V k28 28 _ w.heap.size _ _ ((rd_T38 t535 x4_1).f1) from Kd.V_mk ul544_2 ge544_2)
               clear hva_ hvn_ hvc_ ge544_2 ul544_2
               have hv544_3 := hcc544 3 _ rfl
               rw [add_field _ _ 3 (by omega)] at hv544_3
               replace hv544_3 := Option.some.inj (hv544_3.symm.trans hx544_3)
               injection hv544_3 with hva_ hvn_ hvc_
               rw [hva_] at ge544_3
               rw [hvc_] at ul544_3
               have HL544_3 := aZ_ (show Kd.V k58 58 _ w.heap.size _ _ ((rd_T38 t535 x4_1).f2) from Kd.V_mk ul544_3 ge544_3)
               clear hva_ hvn_ hvc_ ge544_3 ul544_3
               clear hcc544 hce544
               have HR544_2 := aZ_ hi544_2
               have HC544_2 := aZ_ hl544_2
               clear hi544_2 hl544_2
               have HR544_3 := aZ_ hi544_3
               have HC544_3 := aZ_ hl544_3
               clear hi544_3 hl544_3
               replace p544 := eq_true p544
               replace q544 := eq_true q544
               go_upto_region 19 with (fail)
               go_cut [96] (fun v96 wc => ∃ (kq : Nat) (x96_30 : Bool), v96 = .bool x96_30 ∧ Aside0 (chancellaw9_AboveGoes.j3 kq t535 x4_1 t541 x7_2 x96_30 ((rd_T38 t535 x4_1).f0.f0) ((rd_T38 t535 x4_1).f0.f1) = some r) ∧ Aside0 (kq ≤ k3) ∧ Aside0 (Kd.N k38 38 wc w.heap.size (fun k_ => k_ ≠ gb539) (.slice (some ad538) t535.length co12) t535) ∧ Aside0 (Kd.V k28 28 wc w.heap.size (fun k_ => some k_ ≠ ((.slice (some ad538) t535.length co12) : Value).ownBlock ∧ k_ ≠ gb539) (.slice Ao19 t541.length co19) t541) ∧ Aside0 (wc.heap[gb539]? = some (.cells #[.string ((rd_T38 t535 x4_1).f0.f0), .string ((rd_T38 t535 x4_1).f0.f1)] 28 (0, 0))) ∧ Aside0 (Kd.C k28 wc A538_2 ((rd_T38 t535 x4_1).f1).length ((rd_T38 t535 x4_1).f1)) ∧ Aside0 (Kd.C k58 wc A538_3 ((rd_T38 t535 x4_1).f2).length ((rd_T38 t535 x4_1).f2)) ∧ Aside0 (Kd.C k28 wc A544_2 ((rd_T38 t535 x4_1).f1).length ((rd_T38 t535 x4_1).f1)) ∧ Aside0 (Kd.C k58 wc A544_3 ((rd_T38 t535 x4_1).f2).length ((rd_T38 t535 x4_1).f2)) ∧ Aside0 (Below w.heap.size w wc))
               case first =>
                have H := HC31.out
                clear HC31
                by_cases c32 : x8_3 = true
                ·
                 subst c32
                 have H1 : (if 0 ≤ x7_2 then (if x7_2 < (t541.length : Int) then ((above_In.f t535 ((rd_T38 t535 x4_1).f0.f0) ((rd_T38 t535 x4_1).f0.f1) ((rd_T28 t541 x7_2).f0) ((rd_T28 t541 x7_2).f1)).bind fun t550 => (if t550 = true then (if x7_2 > 0 then (if 0 ≤ (wrap64 (x7_2 - 1)) then (if (wrap64 (x7_2 - 1)) < (t541.length : Int) then (chancellaw9_AboveGoes.j3 k3 t535 x4_1 t541 x7_2 ((((rd_T28 t541 x7_2).f0).toList) == (((rd_T28 t541 (wrap64 (x7_2 - 1))).f0).toList) && ((((rd_T28 t541 x7_2).f1).toList) == (((rd_T28 t541 (wrap64 (x7_2 - 1))).f1).toList))) ((rd_T38 t535 x4_1).f0.f0) ((rd_T38 t535 x4_1).f0.f1)) else (none)) else (none)) else (chancellaw9_AboveGoes.j3 k3 t535 x4_1 t541 x7_2 false ((rd_T38 t535 x4_1).f0.f0) ((rd_T38 t535 x4_1).f0.f1))) else (chancellaw9_AboveGoes.j3 k3 t535 x4_1 t541 x7_2 true ((rd_T38 t535 x4_1).f0.f0) ((rd_T38 t535 x4_1).f0.f1)))) else (none)) else (none)) = some r := by rw [if_pos rfl] at H; exact H
                 clear H
                 have H := H1
                 clear H1
                 by_cases c33 : 0 ≤ x7_2
                 ·
                  rw [if_pos c33] at H
                  have c33b0 : decide (0 ≤ x7_2) = true := decide_eq_true c33
                  clear c33
                  (first | rw [c33b0] | (simp only [i64_w, i32_w]; rw [c33b0]) | skip)
                  by_cases c34 : x7_2 < (t541.length : Int)
                  ·
                   rw [if_pos c34] at H
                   have c34b0 : decide (x7_2 < (t541.length : Int)) = true := decide_eq_true c34
                   clear c34
                   replace H := Option.bind_eq_some_iff.mp H
                   obtain ⟨t550, A350, H⟩ := H
                   replace H : (if t550 = true then (if x7_2 > 0 then (if 0 ≤ (wrap64 (x7_2 - 1)) then (if (wrap64 (x7_2 - 1)) < (t541.length : Int) then (chancellaw9_AboveGoes.j3 k3 t535 x4_1 t541 x7_2 ((((rd_T28 t541 x7_2).f0).toList) == (((rd_T28 t541 (wrap64 (x7_2 - 1))).f0).toList) && ((((rd_T28 t541 x7_2).f1).toList) == (((rd_T28 t541 (wrap64 (x7_2 - 1))).f1).toList))) ((rd_T38 t535 x4_1).f0.f0) ((rd_T38 t535 x4_1).f0.f1)) else (none)) else (none)) else (chancellaw9_AboveGoes.j3 k3 t535 x4_1 t541 x7_2 false ((rd_T38 t535 x4_1).f0.f0) ((rd_T38 t535 x4_1).f0.f1))) else (chancellaw9_AboveGoes.j3 k3 t535 x4_1 t541 x7_2 true ((rd_T38 t535 x4_1).f0.f0) ((rd_T38 t535 x4_1).f0.f1))) = some r := H
                   have A35 := aZ_ A350
                   clear A350
                   by_cases c36 : t550 = true
                   ·
                    subst c36
                    have H1 : (if x7_2 > 0 then (if 0 ≤ (wrap64 (x7_2 - 1)) then (if (wrap64 (x7_2 - 1)) < (t541.length : Int) then (chancellaw9_AboveGoes.j3 k3 t535 x4_1 t541 x7_2 ((((rd_T28 t541 x7_2).f0).toList) == (((rd_T28 t541 (wrap64 (x7_2 - 1))).f0).toList) && ((((rd_T28 t541 x7_2).f1).toList) == (((rd_T28 t541 (wrap64 (x7_2 - 1))).f1).toList))) ((rd_T38 t535 x4_1).f0.f0) ((rd_T38 t535 x4_1).f0.f1)) else (none)) else (none)) else (chancellaw9_AboveGoes.j3 k3 t535 x4_1 t541 x7_2 false ((rd_T38 t535 x4_1).f0.f0) ((rd_T38 t535 x4_1).f0.f1))) = some r := by rw [if_pos rfl] at H; exact H
                    clear H
                    have H := H1
                    clear H1
                    by_cases c37 : x7_2 > 0
                    ·
                     rw [if_pos c37] at H
                     have c37b0 : decide (0 < x7_2) = true := decide_eq_true c37
                     clear c37
                     obtain ⟨ji38, hji38⟩ : ∃ j_ : Int, (wrap64 (x7_2 - 1)) = j_ := ⟨_, rfl⟩
                     replace H : (if 0 ≤ (ji38) then (if (ji38) < (t541.length : Int) then (chancellaw9_AboveGoes.j3 k3 t535 x4_1 t541 x7_2 ((((rd_T28 t541 x7_2).f0).toList) == (((rd_T28 t541 (ji38)).f0).toList) && ((((rd_T28 t541 x7_2).f1).toList) == (((rd_T28 t541 (ji38)).f1).toList))) ((rd_T38 t535 x4_1).f0.f0) ((rd_T38 t535 x4_1).f0.f1)) else (none)) else (none)) = some r := by first | (rw [hji38] at H; exact H) | (simp only [hji38] at H ⊢; exact H)
                     (try rw [hji38] at A35)
                     have hji38w : (IntKind.i64.wrap (x7_2 - 1)) = ji38 := (i64_w _).trans hji38
                     by_cases c39 : 0 ≤ (ji38)
                     ·
                      rw [if_pos c39] at H
                      have c39b0 : decide (0 ≤ (ji38)) = true := decide_eq_true c39
                      clear c39
                      by_cases c40 : (ji38) < (t541.length : Int)
                      ·
                       rw [if_pos c40] at H
                       have c40b0 : decide ((ji38) < (t541.length : Int)) = true := decide_eq_true c40
                       clear c40
                       have H' := aZ_ H
                       clear H
                       try go_wp2
                       replace HO_3 := aZ_ (Kd.N_drew HO_3.out)
                       replace HO_6 := aZ_ (Kd.V_drew HO_6.out)
                       replace HL544_2 := aZ_ (Kd.V_drew HL544_2.out)
                       replace HL544_3 := aZ_ (Kd.V_drew HL544_3.out)
                       replace BK539 := aZ_ (blk_drew BK539.out)
                       replace HR538_2 := aZ_ (Kd.C_drew HR538_2.out)
                       replace HR538_3 := aZ_ (Kd.C_drew HR538_3.out)
                       replace HR544_2 := aZ_ (Kd.C_drew HR544_2.out)
                       replace HR544_3 := aZ_ (Kd.C_drew HR544_3.out)
                       replace HB := aZ_ (below_drew1 HB.out)
                       have p549 : 0 ≤ (x7_2 : Int) := of_decide_eq_true asm_
                       have q549 : x7_2 < (t541.length : Int) := of_decide_eq_true asm_
                       obtain ⟨ad549, e549, hx549_0, hx549_1⟩ := at_T28 (Kd.V_reads' HO_6.out).2.2 x7_2 p549 q549
                       cases e549
                       replace p549 := eq_true p549
                       replace q549 := eq_true q549
                       have p551 : 0 ≤ (x7_2 : Int) := of_decide_eq_true asm_
                       have q551 : x7_2 < (t541.length : Int) := of_decide_eq_true asm_
                       obtain ⟨ad551, e551, hx551_0, hx551_1⟩ := at_T28 (Kd.V_reads' HO_6.out).2.2 x7_2 p551 q551
                       obtain rfl : ad549 = ad551 := (by injection e551)
                       replace p551 := eq_true p551
                       replace q551 := eq_true q551
                       have p552 : 0 ≤ ((ji38) : Int) := of_decide_eq_true asm_
                       have q552 : (ji38) < (t541.length : Int) := of_decide_eq_true asm_
                       obtain ⟨ad552, e552, hx552_0, hx552_1⟩ := at_T28 (Kd.V_reads' HO_6.out).2.2 (ji38) p552 q552
                       obtain rfl : ad549 = ad552 := (by injection e552)
                       replace p552 := eq_true p552
                       replace q552 := eq_true q552
                       refine start_ (n := 28) (S := fun w' => w'.cell? ⟨gb539, 0, none⟩ = some (.string ((rd_T38 t535 x4_1).f0.f0)) ∧ w'.cell? ⟨gb539, 1, none⟩ = some (.string ((rd_T38 t535 x4_1).f0.f1)) ∧ w'.cell? (ad549.add ((x7_2).toNat * 2)) = some (.string ((rd_T28 t541 x7_2).f0)) ∧ w'.cell? ⟨(ad549.add ((x7_2).toNat * 2)).block, (ad549.add ((x7_2).toNat * 2)).off + 1, none⟩ = some (.string ((rd_T28 t541 x7_2).f1)) ∧ w'.cell? (ad549.add ((x7_2).toNat * 2)) = some (.string ((rd_T28 t541 x7_2).f0)) ∧ w'.cell? ⟨(ad549.add ((x7_2).toNat * 2)).block, (ad549.add ((x7_2).toNat * 2)).off + 1, none⟩ = some (.string ((rd_T28 t541 x7_2).f1)) ∧ w'.cell? (ad549.add (((ji38)).toNat * 2)) = some (.string ((rd_T28 t541 (ji38)).f0)) ∧ w'.cell? ⟨(ad549.add (((ji38)).toNat * 2)).block, (ad549.add (((ji38)).toNat * 2)).off + 1, none⟩ = some (.string ((rd_T28 t541 (ji38)).f1))) (ds := []) #[false, false, false, false, false, false, false, false, false, false, false, false, false, false, false, false, false, false, false, false, false, false, false, false, false, false, false, false] (by kernel_rfl) rfl rfl ⟨(blk_cell BK539.out 0).trans rfl, (blk_cell BK539.out 1).trans rfl, hx549_0, hx549_1, hx551_0, hx551_1, hx552_0, hx552_1⟩ (fun hHeld => ?_); refine with_tabW chancellaw9_AboveGoes.tab19 chancellaw9_AboveGoes.bits19 (fun HT_ HW_ => ?_)
                       generalize wr.drew = w41 at HO_3 HO_6 HL544_2 HL544_3 BK539 HR538_2 HR538_3 HR544_2 HR544_3 HB hx549_0 hx549_1 hx551_0 hx551_1 hx552_0 hx552_1 hHeld ⊢
                       refine pS_ 0 69 (fa 28 1) HT_ ?_
                       refine pS_ 1 70 (fa 28 3) HT_ ?_
                       refine pS_ 2 71 (fa 28 7) HT_ ?_
                       refine pS_ 3 72 (fa 28 15) HT_ ?_
                       refine pS_ 5 74 (fa 28 47) HT_ ?_
                       refine pS_ 6 75 (fa 28 111) HT_ ?_
                       refine pS_ 7 76 (fa 28 239) HT_ ?_
                       refine tS_ 4 73 (fa 28 255) HT_ HW_ hHeld ?_
                       refine tS_ 8 77 (fa 28 511) HT_ HW_ hHeld ?_
                       refine one_ (i := 9) (N := some 78) #[true, true, true, true, true, true, true, true, true, true, false, false, false, false, false, false, false, false, false, false, false, false, false, false, false, false, false, false] rfl rfl (one_of HT_.out (by kernel_rfl)) (by decide) (fun K hK => ?_)
                       refine goes_ Try.func16 (by kernel_rfl) rfl #[.slice (some ad538) t535.length co12, .agg #[.string ((rd_T38 t535 x4_1).f0.f0), .string ((rd_T38 t535 x4_1).f0.f1)], .agg #[.string ((rd_T28 t541 x7_2).f0), .string ((rd_T28 t541 x7_2).f1)]] (by rfl) rfl rfl gm_ ?_
                       with_reducible refine (above_In.calls _ _ t535 ((rd_T38 t535 x4_1).f0.f0) ((rd_T38 t535 x4_1).f0.f1) ((rd_T28 t541 x7_2).f0) ((rd_T28 t541 x7_2).f1) true _ ?side1 ?side2 A35.out).mono ?_
                       (case side1 => repeat (first | exact (Kd.N_reads' HO_3.out).2.2 | (with_reducible refine Kd.C_alloc ?_ _) | (with_reducible refine Kd.C_drewN ?_ _) | (with_reducible refine Kd.C_drew ?_)))
                       (case side2 => exact (Kd.N_reads' HO_3.out).2.1)
                       rintro e w42 ⟨rfl, hb⟩
                       have HS2_ := (hbc hb (hHeld.2.2.1) :)
                       have HS3_ := (hbc hb (hHeld.2.2.2.1) :)
                       have HS4_ := (hbc hb (hHeld.2.2.2.2.1) :)
                       have HS5_ := (hbc hb (hHeld.2.2.2.2.2.1) :)
                       have HS6_ := (hbc hb (hHeld.2.2.2.2.2.2.1) :)
                       have HS7_ := (hbc hb (hHeld.2.2.2.2.2.2.2) :)
                       refine ⟨_, rfl, ?_⟩
                       replace HO_3 := aZ_ (Kd.N_below (kN HO_3) hb)
                       replace HO_6 := aZ_ (Kd.V_below (kV HO_6) hb)
                       replace HL544_2 := aZ_ (Kd.V_below (kV HL544_2) hb)
                       replace HL544_3 := aZ_ (Kd.V_below (kV HL544_3) hb)
                       replace BK539 := aZ_ (blk_below (g := gb539) (o := .cells #[.string ((rd_T38 t535 x4_1).f0.f0), .string ((rd_T38 t535 x4_1).f0.f1)] 28 (0, 0)) (bk BK539) hb)
                       replace HR538_2 := aZ_ (Kd.C_below (kD HR538_2) hb)
                       replace HR538_3 := aZ_ (Kd.C_below (kD HR538_3) hb)
                       replace HR544_2 := aZ_ (Kd.C_below (kD HR544_2) hb)
                       replace HR544_3 := aZ_ (Kd.C_below (kD HR544_3) hb)
                       replace HB := aZ_ (below_step (bl1 HB GE539) hb)
                       (try clear hb)
                       (try clear hb2)
                       (try clear hk)
                       (try clear hi)
                       refine hK.out _ _ ⟨(blk_cell BK539.out 0).trans rfl, (blk_cell BK539.out 1).trans rfl, HS2_, HS3_, HS4_, HS5_, HS6_, HS7_⟩ (fun hHeld => ?_)
                       clear hK K
                       refine norm_ (a' := ?_) ?_ ?_
                       rotate_left
                       ·
                        show Act.put _ (some 78) _ = _
                        simp only [Act.put, List.setIfInBounds_toArray, List.set_cons_zero, List.set_cons_succ, i64_w, i32_w]
                        rfl
                       refine pS_ 10 79 (fa 28 2047) HT_ ?_
                       refine pS_ 11 80 (fa 28 4095) HT_ ?_
                       refine pS_ 12 81 (fa 28 8191) HT_ ?_
                       refine pS_ 13 82 (fa 28 16383) HT_ ?_
                       refine pS_ 14 83 (fa 28 32767) HT_ ?_
                       refine pS_ 15 84 (fa 28 65535) HT_ ?_
                       refine pS_ 16 85 (fa 28 131071) HT_ ?_
                       refine pS_ 17 86 (fa 28 262143) HT_ ?_
                       refine pS_ 18 87 (fa 28 524287) HT_ ?_
                       refine pS_ 20 89 (fa 28 1572863) HT_ ?_
                       refine pS_ 21 90 (fa 28 3670015) HT_ ?_
                       refine pS_ 22 91 (fa 28 7864319) HT_ ?_
                       refine pS_ 23 92 (fa 28 16252927) HT_ ?_
                       refine tS_ 19 88 (fa 28 16777215) HT_ HW_ hHeld ?_
                       refine tS_ 24 93 (fa 28 33554431) HT_ HW_ hHeld ?_
                       refine pS_ 25 94 (fa 28 67108863) HT_ ?_
                       refine pS_ 26 95 (fa 28 134217727) HT_ ?_
                       refine pS_ 27 96 (fa 28 268435455) HT_ ?_
                       refine done_ (done_of HT_.out (by kernel_rfl)) ?_
                       try go_wp2
                       go_meet
                       case rel => exact ⟨_, (((((rd_T28 t541 x7_2).f0).toList) == (((rd_T28 t541 (ji38)).f0).toList) && ((((rd_T28 t541 x7_2).f1).toList) == (((rd_T28 t541 (ji38)).f1).toList)))), (by first | rfl | (simp; done) | (simp only [← hji38] <;> (first | rfl | (simp; done)); done) | (simp [*]; done)), H', ⟨by have := HK1.out; have := HK2.out; have := HK3.out; first | omega | exact Nat.le_refl _⟩, ⟨kN HO_3⟩, ⟨kV HO_6⟩, ⟨bk BK539⟩, ⟨kD HR538_2⟩, ⟨kD HR538_3⟩, ⟨kD HR544_2⟩, ⟨kD HR544_3⟩, ⟨bl1 HB GE539⟩⟩
                      ·
                       rw [if_neg c40] at H
                       exact absurd H (by simp)
                     ·
                      rw [if_neg c39] at H
                      exact absurd H (by simp)
                    ·
                     rw [if_neg c37] at H
                     have c37b0 : decide (0 < x7_2) = false := decide_eq_false c37
                     clear c37
                     have H' := aZ_ H
                     clear H
                     try go_wp2
                     replace HO_3 := aZ_ (Kd.N_drew HO_3.out)
                     replace HO_6 := aZ_ (Kd.V_drew HO_6.out)
                     replace HL544_2 := aZ_ (Kd.V_drew HL544_2.out)
                     replace HL544_3 := aZ_ (Kd.V_drew HL544_3.out)
                     replace BK539 := aZ_ (blk_drew BK539.out)
                     replace HR538_2 := aZ_ (Kd.C_drew HR538_2.out)
                     replace HR538_3 := aZ_ (Kd.C_drew HR538_3.out)
                     replace HR544_2 := aZ_ (Kd.C_drew HR544_2.out)
                     replace HR544_3 := aZ_ (Kd.C_drew HR544_3.out)
                     replace HB := aZ_ (below_drew1 HB.out)
                     have p549 : 0 ≤ (x7_2 : Int) := of_decide_eq_true asm_
                     have q549 : x7_2 < (t541.length : Int) := of_decide_eq_true asm_
                     obtain ⟨ad549, e549, hx549_0, hx549_1⟩ := at_T28 (Kd.V_reads' HO_6.out).2.2 x7_2 p549 q549
                     cases e549
                     replace p549 := eq_true p549
                     replace q549 := eq_true q549
                     refine start_ (n := 28) (S := fun w' => w'.cell? ⟨gb539, 0, none⟩ = some (.string ((rd_T38 t535 x4_1).f0.f0)) ∧ w'.cell? ⟨gb539, 1, none⟩ = some (.string ((rd_T38 t535 x4_1).f0.f1)) ∧ w'.cell? (ad549.add ((x7_2).toNat * 2)) = some (.string ((rd_T28 t541 x7_2).f0)) ∧ w'.cell? ⟨(ad549.add ((x7_2).toNat * 2)).block, (ad549.add ((x7_2).toNat * 2)).off + 1, none⟩ = some (.string ((rd_T28 t541 x7_2).f1))) (ds := []) #[false, false, false, false, false, false, false, false, false, false, false, false, false, false, false, false, false, false, false, false, false, false, false, false, false, false, false, false] (by kernel_rfl) rfl rfl ⟨(blk_cell BK539.out 0).trans rfl, (blk_cell BK539.out 1).trans rfl, hx549_0, hx549_1⟩ (fun hHeld => ?_); refine with_tabW chancellaw9_AboveGoes.tab19 chancellaw9_AboveGoes.bits19 (fun HT_ HW_ => ?_)
                     generalize wr.drew = w43 at HO_3 HO_6 HL544_2 HL544_3 BK539 HR538_2 HR538_3 HR544_2 HR544_3 HB hx549_0 hx549_1 hHeld ⊢
                     refine pS_ 0 69 (fa 28 1) HT_ ?_
                     refine pS_ 1 70 (fa 28 3) HT_ ?_
                     refine pS_ 2 71 (fa 28 7) HT_ ?_
                     refine pS_ 3 72 (fa 28 15) HT_ ?_
                     refine pS_ 5 74 (fa 28 47) HT_ ?_
                     refine pS_ 6 75 (fa 28 111) HT_ ?_
                     refine pS_ 7 76 (fa 28 239) HT_ ?_
                     refine tS_ 4 73 (fa 28 255) HT_ HW_ hHeld ?_
                     refine tS_ 8 77 (fa 28 511) HT_ HW_ hHeld ?_
                     refine one_ (i := 9) (N := some 78) #[true, true, true, true, true, true, true, true, true, true, false, false, false, false, false, false, false, false, false, false, false, false, false, false, false, false, false, false] rfl rfl (one_of HT_.out (by kernel_rfl)) (by decide) (fun K hK => ?_)
                     refine goes_ Try.func16 (by kernel_rfl) rfl #[.slice (some ad538) t535.length co12, .agg #[.string ((rd_T38 t535 x4_1).f0.f0), .string ((rd_T38 t535 x4_1).f0.f1)], .agg #[.string ((rd_T28 t541 x7_2).f0), .string ((rd_T28 t541 x7_2).f1)]] (by rfl) rfl rfl gm_ ?_
                     with_reducible refine (above_In.calls _ _ t535 ((rd_T38 t535 x4_1).f0.f0) ((rd_T38 t535 x4_1).f0.f1) ((rd_T28 t541 x7_2).f0) ((rd_T28 t541 x7_2).f1) true _ ?side1 ?side2 A35.out).mono ?_
                     (case side1 => repeat (first | exact (Kd.N_reads' HO_3.out).2.2 | (with_reducible refine Kd.C_alloc ?_ _) | (with_reducible refine Kd.C_drewN ?_ _) | (with_reducible refine Kd.C_drew ?_)))
                     (case side2 => exact (Kd.N_reads' HO_3.out).2.1)
                     rintro e w44 ⟨rfl, hb⟩
                     have HS2_ := (hbc hb (hHeld.2.2.1) :)
                     have HS3_ := (hbc hb (hHeld.2.2.2) :)
                     refine ⟨_, rfl, ?_⟩
                     replace HO_3 := aZ_ (Kd.N_below (kN HO_3) hb)
                     replace HO_6 := aZ_ (Kd.V_below (kV HO_6) hb)
                     replace HL544_2 := aZ_ (Kd.V_below (kV HL544_2) hb)
                     replace HL544_3 := aZ_ (Kd.V_below (kV HL544_3) hb)
                     replace BK539 := aZ_ (blk_below (g := gb539) (o := .cells #[.string ((rd_T38 t535 x4_1).f0.f0), .string ((rd_T38 t535 x4_1).f0.f1)] 28 (0, 0)) (bk BK539) hb)
                     replace HR538_2 := aZ_ (Kd.C_below (kD HR538_2) hb)
                     replace HR538_3 := aZ_ (Kd.C_below (kD HR538_3) hb)
                     replace HR544_2 := aZ_ (Kd.C_below (kD HR544_2) hb)
                     replace HR544_3 := aZ_ (Kd.C_below (kD HR544_3) hb)
                     replace HB := aZ_ (below_step (bl1 HB GE539) hb)
                     (try clear hb)
                     (try clear hb2)
                     (try clear hk)
                     (try clear hi)
                     refine hK.out _ _ ⟨(blk_cell BK539.out 0).trans rfl, (blk_cell BK539.out 1).trans rfl, HS2_, HS3_⟩ (fun hHeld => ?_)
                     clear hK K
                     refine norm_ (a' := ?_) ?_ ?_
                     rotate_left
                     ·
                      show Act.put _ (some 78) _ = _
                      simp only [Act.put, List.setIfInBounds_toArray, List.set_cons_zero, List.set_cons_succ, i64_w, i32_w]
                      rfl
                     refine pS_ 10 79 (fa 28 2047) HT_ ?_
                     refine pS_ 11 80 (fa 28 4095) HT_ ?_
                     refine pS_ 12 81 (fa 28 8191) HT_ ?_
                     refine pS_ 13 82 (fa 28 16383) HT_ ?_
                     refine pS_ 14 83 (fa 28 32767) HT_ ?_
                     refine pS_ 15 84 (fa 28 65535) HT_ ?_
                     refine pU_ 16 85 (fa 28 131071) HT_ ?_
                     refine pU_ 17 86 (fa 28 262143) HT_ ?_
                     refine pU_ 18 87 (fa 28 524287) HT_ ?_
                     refine pU_ 19 88 (fa 28 1048575) HT_ ?_
                     refine pU_ 20 89 (fa 28 2097151) HT_ ?_
                     refine pU_ 21 90 (fa 28 4194303) HT_ ?_
                     refine pU_ 22 91 (fa 28 8388607) HT_ ?_
                     refine pU_ 23 92 (fa 28 16777215) HT_ ?_
                     refine pU_ 24 93 (fa 28 33554431) HT_ ?_
                     refine pU_ 25 94 (fa 28 67108863) HT_ ?_
                     refine pS_ 26 95 (fa 28 134217727) HT_ ?_
                     refine pS_ 27 96 (fa 28 268435455) HT_ ?_
                     refine done_ (done_of HT_.out (by kernel_rfl)) ?_
                     try go_wp2
                     go_meet
                     case rel => exact ⟨_, (false), rf_, H', ⟨by have := HK1.out; have := HK2.out; have := HK3.out; first | omega | exact Nat.le_refl _⟩, ⟨kN HO_3⟩, ⟨kV HO_6⟩, ⟨bk BK539⟩, ⟨kD HR538_2⟩, ⟨kD HR538_3⟩, ⟨kD HR544_2⟩, ⟨kD HR544_3⟩, ⟨bl1 HB GE539⟩⟩
                   ·
                    replace c36 := Bool.eq_false_iff.mpr c36
                    subst c36
                    have H1 : (chancellaw9_AboveGoes.j3 k3 t535 x4_1 t541 x7_2 true ((rd_T38 t535 x4_1).f0.f0) ((rd_T38 t535 x4_1).f0.f1)) = some r := by rw [if_neg (show ¬ (false = true) by decide)] at H; exact H
                    clear H
                    have H := H1
                    clear H1
                    have H' := aZ_ H
                    clear H
                    try go_wp2
                    replace HO_3 := aZ_ (Kd.N_drew HO_3.out)
                    replace HO_6 := aZ_ (Kd.V_drew HO_6.out)
                    replace HL544_2 := aZ_ (Kd.V_drew HL544_2.out)
                    replace HL544_3 := aZ_ (Kd.V_drew HL544_3.out)
                    replace BK539 := aZ_ (blk_drew BK539.out)
                    replace HR538_2 := aZ_ (Kd.C_drew HR538_2.out)
                    replace HR538_3 := aZ_ (Kd.C_drew HR538_3.out)
                    replace HR544_2 := aZ_ (Kd.C_drew HR544_2.out)
                    replace HR544_3 := aZ_ (Kd.C_drew HR544_3.out)
                    replace HB := aZ_ (below_drew1 HB.out)
                    have p549 : 0 ≤ (x7_2 : Int) := of_decide_eq_true asm_
                    have q549 : x7_2 < (t541.length : Int) := of_decide_eq_true asm_
                    obtain ⟨ad549, e549, hx549_0, hx549_1⟩ := at_T28 (Kd.V_reads' HO_6.out).2.2 x7_2 p549 q549
                    cases e549
                    replace p549 := eq_true p549
                    replace q549 := eq_true q549
                    refine start_ (n := 28) (S := fun w' => w'.cell? ⟨gb539, 0, none⟩ = some (.string ((rd_T38 t535 x4_1).f0.f0)) ∧ w'.cell? ⟨gb539, 1, none⟩ = some (.string ((rd_T38 t535 x4_1).f0.f1)) ∧ w'.cell? (ad549.add ((x7_2).toNat * 2)) = some (.string ((rd_T28 t541 x7_2).f0)) ∧ w'.cell? ⟨(ad549.add ((x7_2).toNat * 2)).block, (ad549.add ((x7_2).toNat * 2)).off + 1, none⟩ = some (.string ((rd_T28 t541 x7_2).f1))) (ds := []) #[false, false, false, false, false, false, false, false, false, false, false, false, false, false, false, false, false, false, false, false, false, false, false, false, false, false, false, false] (by kernel_rfl) rfl rfl ⟨(blk_cell BK539.out 0).trans rfl, (blk_cell BK539.out 1).trans rfl, hx549_0, hx549_1⟩ (fun hHeld => ?_); refine with_tabW chancellaw9_AboveGoes.tab19 chancellaw9_AboveGoes.bits19 (fun HT_ HW_ => ?_)
                    generalize wr.drew = w45 at HO_3 HO_6 HL544_2 HL544_3 BK539 HR538_2 HR538_3 HR544_2 HR544_3 HB hx549_0 hx549_1 hHeld ⊢
                    refine pS_ 0 69 (fa 28 1) HT_ ?_
                    refine pS_ 1 70 (fa 28 3) HT_ ?_
                    refine pS_ 2 71 (fa 28 7) HT_ ?_
                    refine pS_ 3 72 (fa 28 15) HT_ ?_
                    refine pS_ 5 74 (fa 28 47) HT_ ?_
                    refine pS_ 6 75 (fa 28 111) HT_ ?_
                    refine pS_ 7 76 (fa 28 239) HT_ ?_
                    refine tS_ 4 73 (fa 28 255) HT_ HW_ hHeld ?_
                    refine tS_ 8 77 (fa 28 511) HT_ HW_ hHeld ?_
                    refine one_ (i := 9) (N := some 78) #[true, true, true, true, true, true, true, true, true, true, false, false, false, false, false, false, false, false, false, false, false, false, false, false, false, false, false, false] rfl rfl (one_of HT_.out (by kernel_rfl)) (by decide) (fun K hK => ?_)
                    refine goes_ Try.func16 (by kernel_rfl) rfl #[.slice (some ad538) t535.length co12, .agg #[.string ((rd_T38 t535 x4_1).f0.f0), .string ((rd_T38 t535 x4_1).f0.f1)], .agg #[.string ((rd_T28 t541 x7_2).f0), .string ((rd_T28 t541 x7_2).f1)]] (by rfl) rfl rfl gm_ ?_
                    with_reducible refine (above_In.calls _ _ t535 ((rd_T38 t535 x4_1).f0.f0) ((rd_T38 t535 x4_1).f0.f1) ((rd_T28 t541 x7_2).f0) ((rd_T28 t541 x7_2).f1) false _ ?side1 ?side2 A35.out).mono ?_
                    (case side1 => repeat (first | exact (Kd.N_reads' HO_3.out).2.2 | (with_reducible refine Kd.C_alloc ?_ _) | (with_reducible refine Kd.C_drewN ?_ _) | (with_reducible refine Kd.C_drew ?_)))
                    (case side2 => exact (Kd.N_reads' HO_3.out).2.1)
                    rintro e w46 ⟨rfl, hb⟩
                    have HS2_ := (hbc hb (hHeld.2.2.1) :)
                    have HS3_ := (hbc hb (hHeld.2.2.2) :)
                    refine ⟨_, rfl, ?_⟩
                    replace HO_3 := aZ_ (Kd.N_below (kN HO_3) hb)
                    replace HO_6 := aZ_ (Kd.V_below (kV HO_6) hb)
                    replace HL544_2 := aZ_ (Kd.V_below (kV HL544_2) hb)
                    replace HL544_3 := aZ_ (Kd.V_below (kV HL544_3) hb)
                    replace BK539 := aZ_ (blk_below (g := gb539) (o := .cells #[.string ((rd_T38 t535 x4_1).f0.f0), .string ((rd_T38 t535 x4_1).f0.f1)] 28 (0, 0)) (bk BK539) hb)
                    replace HR538_2 := aZ_ (Kd.C_below (kD HR538_2) hb)
                    replace HR538_3 := aZ_ (Kd.C_below (kD HR538_3) hb)
                    replace HR544_2 := aZ_ (Kd.C_below (kD HR544_2) hb)
                    replace HR544_3 := aZ_ (Kd.C_below (kD HR544_3) hb)
                    replace HB := aZ_ (below_step (bl1 HB GE539) hb)
                    (try clear hb)
                    (try clear hb2)
                    (try clear hk)
                    (try clear hi)
                    refine hK.out _ _ ⟨(blk_cell BK539.out 0).trans rfl, (blk_cell BK539.out 1).trans rfl, HS2_, HS3_⟩ (fun hHeld => ?_)
                    clear hK K
                    refine norm_ (a' := ?_) ?_ ?_
                    rotate_left
                    ·
                     show Act.put _ (some 78) _ = _
                     simp only [Act.put, List.setIfInBounds_toArray, List.set_cons_zero, List.set_cons_succ, i64_w, i32_w]
                     rfl
                    refine pS_ 10 79 (fa 28 2047) HT_ ?_
                    refine pS_ 11 80 (fa 28 4095) HT_ ?_
                    refine pS_ 12 81 (fa 28 8191) HT_ ?_
                    refine pU_ 13 82 (fa 28 16383) HT_ ?_
                    refine pU_ 14 83 (fa 28 32767) HT_ ?_
                    refine pU_ 15 84 (fa 28 65535) HT_ ?_
                    refine pU_ 16 85 (fa 28 131071) HT_ ?_
                    refine pU_ 17 86 (fa 28 262143) HT_ ?_
                    refine pU_ 18 87 (fa 28 524287) HT_ ?_
                    refine pU_ 19 88 (fa 28 1048575) HT_ ?_
                    refine pU_ 20 89 (fa 28 2097151) HT_ ?_
                    refine pU_ 21 90 (fa 28 4194303) HT_ ?_
                    refine pU_ 22 91 (fa 28 8388607) HT_ ?_
                    refine pU_ 23 92 (fa 28 16777215) HT_ ?_
                    refine pU_ 24 93 (fa 28 33554431) HT_ ?_
                    refine pU_ 25 94 (fa 28 67108863) HT_ ?_
                    refine pU_ 26 95 (fa 28 134217727) HT_ ?_
                    refine pS_ 27 96 (fa 28 268435455) HT_ ?_
                    refine done_ (done_of HT_.out (by kernel_rfl)) ?_
                    try go_wp2
                    go_meet
                    case rel => exact ⟨_, (true), rf_, H', ⟨by have := HK1.out; have := HK2.out; have := HK3.out; first | omega | exact Nat.le_refl _⟩, ⟨kN HO_3⟩, ⟨kV HO_6⟩, ⟨bk BK539⟩, ⟨kD HR538_2⟩, ⟨kD HR538_3⟩, ⟨kD HR544_2⟩, ⟨kD HR544_3⟩, ⟨bl1 HB GE539⟩⟩
                  ·
                   rw [if_neg c34] at H
                   exact absurd H (by simp)
                 ·
                  rw [if_neg c33] at H
                  exact absurd H (by simp)
                ·
                 replace c32 := Bool.eq_false_iff.mpr c32
                 subst c32
                 have H1 : (chancellaw9_AboveGoes.j3 k3 t535 x4_1 t541 x7_2 true ((rd_T38 t535 x4_1).f0.f0) ((rd_T38 t535 x4_1).f0.f1)) = some r := by rw [if_neg (show ¬ (false = true) by decide)] at H; exact H
                 clear H
                 have H := H1
                 clear H1
                 have H' := aZ_ H
                 clear H
                 try go_wp2
                 replace HO_3 := aZ_ (Kd.N_drew HO_3.out)
                 replace HO_6 := aZ_ (Kd.V_drew HO_6.out)
                 replace HL544_2 := aZ_ (Kd.V_drew HL544_2.out)
                 replace HL544_3 := aZ_ (Kd.V_drew HL544_3.out)
                 replace BK539 := aZ_ (blk_drew BK539.out)
                 replace HR538_2 := aZ_ (Kd.C_drew HR538_2.out)
                 replace HR538_3 := aZ_ (Kd.C_drew HR538_3.out)
                 replace HR544_2 := aZ_ (Kd.C_drew HR544_2.out)
                 replace HR544_3 := aZ_ (Kd.C_drew HR544_3.out)
                 replace HB := aZ_ (below_drew1 HB.out)
                 refine start_ (n := 28) (S := fun w' => True) (ds := []) #[false, false, false, false, false, false, false, false, false, false, false, false, false, false, false, false, false, false, false, false, false, false, false, false, false, false, false, false] (by kernel_rfl) rfl rfl trivial (fun hHeld => ?_); refine with_tabW chancellaw9_AboveGoes.tab19 chancellaw9_AboveGoes.bits19 (fun HT_ HW_ => ?_)
                 generalize wr.drew = w47 at HO_3 HO_6 HL544_2 HL544_3 BK539 HR538_2 HR538_3 HR544_2 HR544_3 HB hHeld ⊢
                 refine pS_ 0 69 (fa 28 1) HT_ ?_
                 refine pS_ 1 70 (fa 28 3) HT_ ?_
                 refine pS_ 2 71 (fa 28 7) HT_ ?_
                 refine pU_ 3 72 (fa 28 15) HT_ ?_
                 refine pU_ 4 73 (fa 28 31) HT_ ?_
                 refine pU_ 5 74 (fa 28 63) HT_ ?_
                 refine pU_ 6 75 (fa 28 127) HT_ ?_
                 refine pU_ 7 76 (fa 28 255) HT_ ?_
                 refine pU_ 8 77 (fa 28 511) HT_ ?_
                 refine pU_ 9 78 (fa 28 1023) HT_ ?_
                 refine pU_ 10 79 (fa 28 2047) HT_ ?_
                 refine pS_ 11 80 (fa 28 4095) HT_ ?_
                 refine pS_ 12 81 (fa 28 8191) HT_ ?_
                 refine pU_ 13 82 (fa 28 16383) HT_ ?_
                 refine pU_ 14 83 (fa 28 32767) HT_ ?_
                 refine pU_ 15 84 (fa 28 65535) HT_ ?_
                 refine pU_ 16 85 (fa 28 131071) HT_ ?_
                 refine pU_ 17 86 (fa 28 262143) HT_ ?_
                 refine pU_ 18 87 (fa 28 524287) HT_ ?_
                 refine pU_ 19 88 (fa 28 1048575) HT_ ?_
                 refine pU_ 20 89 (fa 28 2097151) HT_ ?_
                 refine pU_ 21 90 (fa 28 4194303) HT_ ?_
                 refine pU_ 22 91 (fa 28 8388607) HT_ ?_
                 refine pU_ 23 92 (fa 28 16777215) HT_ ?_
                 refine pU_ 24 93 (fa 28 33554431) HT_ ?_
                 refine pU_ 25 94 (fa 28 67108863) HT_ ?_
                 refine pU_ 26 95 (fa 28 134217727) HT_ ?_
                 refine pS_ 27 96 (fa 28 268435455) HT_ ?_
                 refine done_ (done_of HT_.out (by kernel_rfl)) ?_
                 try go_wp2
                 go_meet
                 case rel => exact ⟨_, (true), rf_, H', ⟨by have := HK1.out; have := HK2.out; have := HK3.out; first | omega | exact Nat.le_refl _⟩, ⟨kN HO_3⟩, ⟨kV HO_6⟩, ⟨bk BK539⟩, ⟨kD HR538_2⟩, ⟨kD HR538_3⟩, ⟨kD HR544_2⟩, ⟨kD HR544_3⟩, ⟨bl1 HB GE539⟩⟩
               case rest =>
                clear HC31
                try clear c1
                try clear p2
                try clear c3
                try clear p5
                try clear q5
                try clear hx5
                try clear c16
                try clear c32
                try clear c33
                try clear c34
                try clear c36
                try clear hx549_0
                try clear hx549_1
                try clear p549
                try clear q549
                obtain ⟨kq, x96_30, rfl, HA, HJ30, HO_3, HO_6, BK539, HR538_2, HR538_3, HR544_2, HR544_3, HB⟩ := hcut
                cases kq with
                | zero => exact absurd HA.out (by simp [chancellaw9_AboveGoes.j3])
                | succ kj30 =>
                 have H := HA.out
                 clear HA
                 simp only [chancellaw9_AboveGoes.j3] at H
                 by_cases c48 : x96_30 = true
                 ·
                  subst c48
                  have H1 : (some false) = some r := by rw [if_pos rfl] at H; exact H
                  clear H
                  have H := H1
                  clear H1
                  obtain rfl := Option.some.inj H
                  go_wp2
                  go_ret
                  exact ⟨by first | rfl | (simp [errW_none, errW_some] <;> rfl) | (simp [*, errW_none, errW_some] <;> rfl), bl1 HB GE539⟩
                 ·
                  replace c48 := Bool.eq_false_iff.mpr c48
                  subst c48
                  have H1 : (if 0 ≤ x7_2 then (if x7_2 < (t541.length : Int) then ((above_Above.f t535 ((rd_T28 t541 x7_2).f0) ((rd_T28 t541 x7_2).f1)).bind fun t554 => (chancellaw9_AboveGoes.l3 kj30 t535 x4_1 t541 x7_2 t554 0 ((rd_T38 t535 x4_1).f0.f0) ((rd_T38 t535 x4_1).f0.f1))) else (none)) else (none)) = some r := by rw [if_neg (show ¬ (false = true) by decide)] at H; exact H
                  clear H
                  have H := H1
                  clear H1
                  by_cases c49 : 0 ≤ x7_2
                  ·
                   rw [if_pos c49] at H
                   have c49b0 : decide (0 ≤ x7_2) = true := decide_eq_true c49
                   clear c49
                   by_cases c50 : x7_2 < (t541.length : Int)
                   ·
                    rw [if_pos c50] at H
                    have c50b0 : decide (x7_2 < (t541.length : Int)) = true := decide_eq_true c50
                    clear c50
                    replace H := Option.bind_eq_some_iff.mp H
                    obtain ⟨t554, A510, H⟩ := H
                    replace H : (chancellaw9_AboveGoes.l3 kj30 t535 x4_1 t541 x7_2 t554 0 ((rd_T38 t535 x4_1).f0.f0) ((rd_T38 t535 x4_1).f0.f1)) = some r := H
                    have A51 := aZ_ A510
                    clear A510
                    have H' := aZ_ H
                    clear H
                    have p553 : 0 ≤ (x7_2 : Int) := of_decide_eq_true asm_
                    have q553 : x7_2 < (t541.length : Int) := of_decide_eq_true asm_
                    obtain ⟨ad553, e553, hx553_0, hx553_1⟩ := at_T28 (Kd.V_reads' HO_6.out).2.2 x7_2 p553 q553
                    cases e553
                    replace p553 := eq_true p553
                    replace q553 := eq_true q553
                    go_wp2_with (first | ((with_reducible refine gate_callee (f := 19) rfl ?_); refine goesL_ (some 102) rfl rfl Try.func19 (by kernel_rfl) rfl #[.slice (some ad538) t535.length co12, .agg #[.string ((rd_T28 t541 x7_2).f0), .string ((rd_T28 t541 x7_2).f1)]] rfl gm_ ?_; (with_reducible refine (above_Above.calls _ _ t535 ((rd_T28 t541 x7_2).f0) ((rd_T28 t541 x7_2).f1) t554 _ ?side1 ?side2 A51.out).mono ?_); (case side1 => repeat (first | exact (Kd.N_reads' HO_3.out).2.2 | (with_reducible refine Kd.C_alloc ?_ _) | (with_reducible refine Kd.C_drewN ?_ _) | (with_reducible refine Kd.C_drew ?_))); (case side2 => exact (Kd.N_reads' HO_3.out).2.1); rintro e w52 ⟨v555, rfl, ho0, hb⟩; refine ⟨_, rfl, ?_⟩; replace HO_6 := aZ_ (Kd.V_below (kV HO_6) hb); have HO556 := aZ_ (Kd.V_lower (Kd.V_mono (ok' := fun k_ => some k_ ≠ (.slice (some ad538) t535.length co12 : Value).ownBlock ∧ k_ ≠ gb539) ho0 (fun k_ hk_ => ⟨(Kd.fresh' (Kd.N_lt (kN HO_3)) k_ hk_), (Kd.freshB (g := gb539) (o := .cells #[.string ((rd_T38 t535 x4_1).f0.f0), .string ((rd_T38 t535 x4_1).f0.f1)] 28 (0, 0)) (bk BK539) k_ hk_)⟩)) (below_size (bl1 HB GE539))); replace HO_3 := aZ_ (Kd.N_below (kN HO_3) hb); replace BK539 := aZ_ (blk_below (g := gb539) (o := .cells #[.string ((rd_T38 t535 x4_1).f0.f0), .string ((rd_T38 t535 x4_1).f0.f1)] 28 (0, 0)) (bk BK539) hb); replace HR538_2 := aZ_ (Kd.C_below (kD HR538_2) hb); replace HR538_3 := aZ_ (Kd.C_below (kD HR538_3) hb); replace HR544_2 := aZ_ (Kd.C_below (kD HR544_2) hb); replace HR544_3 := aZ_ (Kd.C_below (kD HR544_3) hb); replace HB := aZ_ (below_step (bl1 HB GE539) hb); (try clear hb); (try clear hb2); (try clear hk); (try clear hi); (try clear ho0)))
                    go_loopg [11] kj30 (fun kq v11 w' => ∃ (x11_5 : Int), v11 = .int .i64 x11_5 ∧ Aside0 (chancellaw9_AboveGoes.l3 kq t535 x4_1 t541 x7_2 t554 x11_5 ((rd_T38 t535 x4_1).f0.f0) ((rd_T38 t535 x4_1).f0.f1) = some r) ∧ Aside0 (kq ≤ kj30) ∧ Aside0 (Kd.N k38 38 w' w.heap.size (fun k_ => k_ ≠ gb539) (.slice (some ad538) t535.length co12) t535) ∧ Aside0 (Kd.V k28 28 w' w.heap.size (fun k_ => some k_ ≠ ((.slice (some ad538) t535.length co12) : Value).ownBlock ∧ k_ ≠ gb539) (.slice (some ad553) t541.length co19) t541) ∧ Aside0 (Kd.V k28 28 w' w.heap.size (fun k_ => some k_ ≠ ((.slice (some ad538) t535.length co12) : Value).ownBlock ∧ k_ ≠ gb539) v555 t554) ∧ Aside0 (w'.heap[gb539]? = some (.cells #[.string ((rd_T38 t535 x4_1).f0.f0), .string ((rd_T38 t535 x4_1).f0.f1)] 28 (0, 0))) ∧ Aside0 (Kd.C k28 w' A538_2 ((rd_T38 t535 x4_1).f1).length ((rd_T38 t535 x4_1).f1)) ∧ Aside0 (Kd.C k58 w' A538_3 ((rd_T38 t535 x4_1).f2).length ((rd_T38 t535 x4_1).f2)) ∧ Aside0 (Kd.C k28 w' A544_2 ((rd_T38 t535 x4_1).f1).length ((rd_T38 t535 x4_1).f1)) ∧ Aside0 (Kd.C k58 w' A544_3 ((rd_T38 t535 x4_1).f2).length ((rd_T38 t535 x4_1).f2)) ∧ Aside0 (Below w.heap.size w w'))
                    case atStart => exact ⟨(0), rf_, H', ⟨Nat.le_refl _⟩, ⟨kN HO_3⟩, ⟨kV HO_6⟩, ⟨kV HO556⟩, ⟨bk BK539⟩, ⟨kD HR538_2⟩, ⟨kD HR538_3⟩, ⟨kD HR544_2⟩, ⟨kD HR544_3⟩, ⟨bl1 HB GE539⟩⟩
                    case round =>
                     clear H'
                     try clear c1
                     try clear p2
                     try clear c3
                     try clear c4
                     try clear c5
                     try clear p5
                     try clear q5
                     try clear hx5
                     try clear c16
                     try clear c19
                     try clear c32
                     try clear c33
                     try clear c34
                     try clear c36
                     try clear c48
                     try clear c49
                     try clear c49b0
                     try clear c50
                     try clear c50b0
                     try clear hx549_0
                     try clear hx549_1
                     try clear hx553_0
                     try clear hx553_1
                     try clear p2
                     try clear p5
                     try clear p549
                     try clear p553
                     try clear q5
                     try clear q549
                     try clear q553
                     obtain ⟨x11_5, rfl, HA, HK5, HO_3, HO_6, HO_10, BK539, HR538_2, HR538_3, HR544_2, HR544_3, HB⟩ := hrel
                     cases gk with
                     | zero => exact absurd HA.out (by simp [chancellaw9_AboveGoes.l3])
                     | succ k5 =>
                      have H := HA.out
                      clear HA
                      simp only [chancellaw9_AboveGoes.l3] at H
                      by_cases c53 : x11_5 < (t554.length : Int)
                      ·
                       rw [if_pos c53] at H
                       have c53b0 : decide (x11_5 < (t554.length : Int)) = true := decide_eq_true c53
                       clear c53
                       by_cases c54 : 0 ≤ x11_5
                       ·
                        rw [if_pos c54] at H
                        have c54b0 : decide (0 ≤ x11_5) = true := decide_eq_true c54
                        clear c54
                        replace H := Option.bind_eq_some_iff.mp H
                        obtain ⟨t558, A550, H⟩ := H
                        replace H : (if t558 = true then (chancellaw9_AboveGoes.l3 k5 t535 x4_1 t541 x7_2 t554 (wrap64 (x11_5 + 1)) ((rd_T38 t535 x4_1).f0.f0) ((rd_T38 t535 x4_1).f0.f1)) else (some false)) = some r := H
                        have A55 := aZ_ A550
                        clear A550
                        by_cases c56 : t558 = true
                        ·
                         subst c56
                         have H1 : (chancellaw9_AboveGoes.l3 k5 t535 x4_1 t541 x7_2 t554 (wrap64 (x11_5 + 1)) ((rd_T38 t535 x4_1).f0.f0) ((rd_T38 t535 x4_1).f0.f1)) = some r := by rw [if_pos rfl] at H; exact H
                         clear H
                         have H := H1
                         clear H1
                         have H' := aZ_ H
                         clear H
                         obtain ⟨Ao57, co57, eo57⟩ := Kd.V_slice HO_10.out
                         subst eo57
                         try go_wp2
                         replace HO_3 := aZ_ (Kd.N_drew HO_3.out)
                         replace HO_6 := aZ_ (Kd.V_drew HO_6.out)
                         replace HO_10 := aZ_ (Kd.V_drew HO_10.out)
                         replace BK539 := aZ_ (blk_drew BK539.out)
                         replace HR538_2 := aZ_ (Kd.C_drew HR538_2.out)
                         replace HR538_3 := aZ_ (Kd.C_drew HR538_3.out)
                         replace HR544_2 := aZ_ (Kd.C_drew HR544_2.out)
                         replace HR544_3 := aZ_ (Kd.C_drew HR544_3.out)
                         replace HB := aZ_ (below_drew1 HB.out)
                         have p557 : 0 ≤ (x11_5 : Int) := of_decide_eq_true asm_
                         have q557 : x11_5 < (t554.length : Int) := of_decide_eq_true asm_
                         obtain ⟨ad557, e557, hx557_0, hx557_1⟩ := at_T28 (Kd.V_reads' HO_10.out).2.2 x11_5 p557 q557
                         cases e557
                         replace p557 := eq_true p557
                         replace q557 := eq_true q557
                         refine start_ (n := 8) (S := fun w' => w'.cell? ⟨gb539, 0, none⟩ = some (.string ((rd_T38 t535 x4_1).f0.f0)) ∧ w'.cell? ⟨gb539, 1, none⟩ = some (.string ((rd_T38 t535 x4_1).f0.f1)) ∧ w'.cell? (ad557.add ((x11_5).toNat * 2)) = some (.string ((rd_T28 t554 x11_5).f0)) ∧ w'.cell? ⟨(ad557.add ((x11_5).toNat * 2)).block, (ad557.add ((x11_5).toNat * 2)).off + 1, none⟩ = some (.string ((rd_T28 t554 x11_5).f1))) (ds := []) #[false, false, false, false, false, false, false, false] (by kernel_rfl) rfl rfl ⟨(blk_cell BK539.out 0).trans rfl, (blk_cell BK539.out 1).trans rfl, hx557_0, hx557_1⟩ (fun hHeld => ?_); refine with_tabW chancellaw9_AboveGoes.tab25 chancellaw9_AboveGoes.bits25 (fun HT_ HW_ => ?_)
                         generalize wr.drew = w58 at HO_3 HO_6 HO_10 BK539 HR538_2 HR538_3 HR544_2 HR544_3 HB hx557_0 hx557_1 hHeld ⊢
                         refine pS_ 0 109 (fa 8 1) HT_ ?_
                         refine pS_ 2 111 (fa 8 5) HT_ ?_
                         refine pS_ 3 112 (fa 8 13) HT_ ?_
                         refine pS_ 4 113 (fa 8 29) HT_ ?_
                         refine tS_ 1 110 (fa 8 31) HT_ HW_ hHeld ?_
                         refine tS_ 5 114 (fa 8 63) HT_ HW_ hHeld ?_
                         refine one_ (i := 6) (N := some 115) #[true, true, true, true, true, true, true, false] rfl rfl (one_of HT_.out (by kernel_rfl)) (by decide) (fun K hK => ?_)
                         refine goes_ Try.func16 (by kernel_rfl) rfl #[.slice (some ad538) t535.length co12, .agg #[.string ((rd_T38 t535 x4_1).f0.f0), .string ((rd_T38 t535 x4_1).f0.f1)], .agg #[.string ((rd_T28 t554 x11_5).f0), .string ((rd_T28 t554 x11_5).f1)]] (by rfl) rfl rfl gm_ ?_
                         with_reducible refine (above_In.calls _ _ t535 ((rd_T38 t535 x4_1).f0.f0) ((rd_T38 t535 x4_1).f0.f1) ((rd_T28 t554 x11_5).f0) ((rd_T28 t554 x11_5).f1) true _ ?side1 ?side2 A55.out).mono ?_
                         (case side1 => repeat (first | exact (Kd.N_reads' HO_3.out).2.2 | (with_reducible refine Kd.C_alloc ?_ _) | (with_reducible refine Kd.C_drewN ?_ _) | (with_reducible refine Kd.C_drew ?_)))
                         (case side2 => exact (Kd.N_reads' HO_3.out).2.1)
                         rintro e w59 ⟨rfl, hb⟩
                         have HS2_ := (hbc hb (hHeld.2.2.1) :)
                         have HS3_ := (hbc hb (hHeld.2.2.2) :)
                         refine ⟨_, rfl, ?_⟩
                         replace HO_3 := aZ_ (Kd.N_below (kN HO_3) hb)
                         replace HO_6 := aZ_ (Kd.V_below (kV HO_6) hb)
                         replace HO_10 := aZ_ (Kd.V_below (kV HO_10) hb)
                         replace BK539 := aZ_ (blk_below (g := gb539) (o := .cells #[.string ((rd_T38 t535 x4_1).f0.f0), .string ((rd_T38 t535 x4_1).f0.f1)] 28 (0, 0)) (bk BK539) hb)
                         replace HR538_2 := aZ_ (Kd.C_below (kD HR538_2) hb)
                         replace HR538_3 := aZ_ (Kd.C_below (kD HR538_3) hb)
                         replace HR544_2 := aZ_ (Kd.C_below (kD HR544_2) hb)
                         replace HR544_3 := aZ_ (Kd.C_below (kD HR544_3) hb)
                         replace HB := aZ_ (below_step (bl1 HB GE539) hb)
                         (try clear hb)
                         (try clear hb2)
                         (try clear hk)
                         (try clear hi)
                         refine hK.out _ _ ⟨(blk_cell BK539.out 0).trans rfl, (blk_cell BK539.out 1).trans rfl, HS2_, HS3_⟩ (fun hHeld => ?_)
                         clear hK K
                         refine norm_ (a' := ?_) ?_ ?_
                         rotate_left
                         ·
                          show Act.put _ (some 115) _ = _
                          simp only [Act.put, List.setIfInBounds_toArray, List.set_cons_zero, List.set_cons_succ, i64_w, i32_w]
                          rfl
                         refine pS_ 7 116 (fa 8 255) HT_ ?_
                         refine done_ (done_of HT_.out (by kernel_rfl)) ?_
                         try go_wp2
                         go_roundg k5
                         case measure => have := HK1.out; have := HK2.out; have := HK3.out; have := HJ30.out; have := HK5.out; omega
                         case rel => exact ⟨(wrap64 (x11_5 + 1)), rf_, H', ⟨by have := HK1.out; have := HK2.out; have := HK3.out; have := HJ30.out; have := HK5.out; omega⟩, ⟨kN HO_3⟩, ⟨kV HO_6⟩, ⟨kV HO_10⟩, ⟨bk BK539⟩, ⟨kD HR538_2⟩, ⟨kD HR538_3⟩, ⟨kD HR544_2⟩, ⟨kD HR544_3⟩, ⟨bl1 HB GE539⟩⟩
                        ·
                         replace c56 := Bool.eq_false_iff.mpr c56
                         subst c56
                         have H1 : (some false) = some r := by rw [if_neg (show ¬ (false = true) by decide)] at H; exact H
                         clear H
                         have H := H1
                         clear H1
                         obtain rfl := Option.some.inj H
                         obtain ⟨Ao60, co60, eo60⟩ := Kd.V_slice HO_10.out
                         subst eo60
                         try go_wp2
                         replace HO_3 := aZ_ (Kd.N_drew HO_3.out)
                         replace HO_6 := aZ_ (Kd.V_drew HO_6.out)
                         replace HO_10 := aZ_ (Kd.V_drew HO_10.out)
                         replace BK539 := aZ_ (blk_drew BK539.out)
                         replace HR538_2 := aZ_ (Kd.C_drew HR538_2.out)
                         replace HR538_3 := aZ_ (Kd.C_drew HR538_3.out)
                         replace HR544_2 := aZ_ (Kd.C_drew HR544_2.out)
                         replace HR544_3 := aZ_ (Kd.C_drew HR544_3.out)
                         replace HB := aZ_ (below_drew1 HB.out)
                         have p557 : 0 ≤ (x11_5 : Int) := of_decide_eq_true asm_
                         have q557 : x11_5 < (t554.length : Int) := of_decide_eq_true asm_
                         obtain ⟨ad557, e557, hx557_0, hx557_1⟩ := at_T28 (Kd.V_reads' HO_10.out).2.2 x11_5 p557 q557
                         cases e557
                         replace p557 := eq_true p557
                         replace q557 := eq_true q557
                         refine start_ (n := 8) (S := fun w' => w'.cell? ⟨gb539, 0, none⟩ = some (.string ((rd_T38 t535 x4_1).f0.f0)) ∧ w'.cell? ⟨gb539, 1, none⟩ = some (.string ((rd_T38 t535 x4_1).f0.f1)) ∧ w'.cell? (ad557.add ((x11_5).toNat * 2)) = some (.string ((rd_T28 t554 x11_5).f0)) ∧ w'.cell? ⟨(ad557.add ((x11_5).toNat * 2)).block, (ad557.add ((x11_5).toNat * 2)).off + 1, none⟩ = some (.string ((rd_T28 t554 x11_5).f1))) (ds := []) #[false, false, false, false, false, false, false, false] (by kernel_rfl) rfl rfl ⟨(blk_cell BK539.out 0).trans rfl, (blk_cell BK539.out 1).trans rfl, hx557_0, hx557_1⟩ (fun hHeld => ?_); refine with_tabW chancellaw9_AboveGoes.tab25 chancellaw9_AboveGoes.bits25 (fun HT_ HW_ => ?_)
                         generalize wr.drew = w61 at HO_3 HO_6 HO_10 BK539 HR538_2 HR538_3 HR544_2 HR544_3 HB hx557_0 hx557_1 hHeld ⊢
                         refine pS_ 0 109 (fa 8 1) HT_ ?_
                         refine pS_ 2 111 (fa 8 5) HT_ ?_
                         refine pS_ 3 112 (fa 8 13) HT_ ?_
                         refine pS_ 4 113 (fa 8 29) HT_ ?_
                         refine tS_ 1 110 (fa 8 31) HT_ HW_ hHeld ?_
                         refine tS_ 5 114 (fa 8 63) HT_ HW_ hHeld ?_
                         refine one_ (i := 6) (N := some 115) #[true, true, true, true, true, true, true, false] rfl rfl (one_of HT_.out (by kernel_rfl)) (by decide) (fun K hK => ?_)
                         refine goes_ Try.func16 (by kernel_rfl) rfl #[.slice (some ad538) t535.length co12, .agg #[.string ((rd_T38 t535 x4_1).f0.f0), .string ((rd_T38 t535 x4_1).f0.f1)], .agg #[.string ((rd_T28 t554 x11_5).f0), .string ((rd_T28 t554 x11_5).f1)]] (by rfl) rfl rfl gm_ ?_
                         with_reducible refine (above_In.calls _ _ t535 ((rd_T38 t535 x4_1).f0.f0) ((rd_T38 t535 x4_1).f0.f1) ((rd_T28 t554 x11_5).f0) ((rd_T28 t554 x11_5).f1) false _ ?side1 ?side2 A55.out).mono ?_
                         (case side1 => repeat (first | exact (Kd.N_reads' HO_3.out).2.2 | (with_reducible refine Kd.C_alloc ?_ _) | (with_reducible refine Kd.C_drewN ?_ _) | (with_reducible refine Kd.C_drew ?_)))
                         (case side2 => exact (Kd.N_reads' HO_3.out).2.1)
                         rintro e w62 ⟨rfl, hb⟩
                         have HS2_ := (hbc hb (hHeld.2.2.1) :)
                         have HS3_ := (hbc hb (hHeld.2.2.2) :)
                         refine ⟨_, rfl, ?_⟩
                         replace HO_3 := aZ_ (Kd.N_below (kN HO_3) hb)
                         replace HO_6 := aZ_ (Kd.V_below (kV HO_6) hb)
                         replace HO_10 := aZ_ (Kd.V_below (kV HO_10) hb)
                         replace BK539 := aZ_ (blk_below (g := gb539) (o := .cells #[.string ((rd_T38 t535 x4_1).f0.f0), .string ((rd_T38 t535 x4_1).f0.f1)] 28 (0, 0)) (bk BK539) hb)
                         replace HR538_2 := aZ_ (Kd.C_below (kD HR538_2) hb)
                         replace HR538_3 := aZ_ (Kd.C_below (kD HR538_3) hb)
                         replace HR544_2 := aZ_ (Kd.C_below (kD HR544_2) hb)
                         replace HR544_3 := aZ_ (Kd.C_below (kD HR544_3) hb)
                         replace HB := aZ_ (below_step (bl1 HB GE539) hb)
                         (try clear hb)
                         (try clear hb2)
                         (try clear hk)
                         (try clear hi)
                         refine hK.out _ _ ⟨(blk_cell BK539.out 0).trans rfl, (blk_cell BK539.out 1).trans rfl, HS2_, HS3_⟩ (fun hHeld => ?_)
                         clear hK K
                         refine norm_ (a' := ?_) ?_ ?_
                         rotate_left
                         ·
                          show Act.put _ (some 115) _ = _
                          simp only [Act.put, List.setIfInBounds_toArray, List.set_cons_zero, List.set_cons_succ, i64_w, i32_w]
                          rfl
                         refine pS_ 7 116 (fa 8 255) HT_ ?_
                         refine done_ (done_of HT_.out (by kernel_rfl)) ?_
                         try go_wp2
                         go_ret
                         exact ⟨by first | rfl | (simp [errW_none, errW_some] <;> rfl) | (simp [*, errW_none, errW_some] <;> rfl), bl1 HB GE539⟩
                       ·
                        rw [if_neg c54] at H
                        exact absurd H (by simp)
                      ·
                       rw [if_neg c53] at H
                       have c53b0 : decide (x11_5 < (t554.length : Int)) = false := decide_eq_false c53
                       clear c53
                       have H' := aZ_ H
                       clear H
                       obtain ⟨Ao63, co63, eo63⟩ := Kd.V_slice HO_10.out
                       subst eo63
                       go_wp2
                       go_roundg k5
                       case measure => have := HK1.out; have := HK2.out; have := HK3.out; have := HJ30.out; have := HK5.out; omega
                       case rel => exact ⟨(wrap64 (x7_2 + 1)), rf_, H', ⟨by have := HK1.out; have := HK2.out; have := HK3.out; have := HJ30.out; have := HK5.out; omega⟩, ⟨kN HO_3⟩, ⟨kV HO_6⟩, ⟨bk BK539⟩, ⟨kD HR538_2⟩, ⟨kD HR538_3⟩, ⟨bl1 HB GE539⟩⟩
                   ·
                    rw [if_neg c50] at H
                    exact absurd H (by simp)
                  ·
                   rw [if_neg c49] at H
                   exact absurd H (by simp)
             ·
              rw [if_neg c21] at H
              exact absurd H (by simp)
            ·
             rw [if_neg c20] at H
             exact absurd H (by simp)
         ·
          rw [if_neg c18] at H
          have c18b0 : decide (x7_2 < (t541.length : Int)) = false := decide_eq_false c18
          clear c18
          have H' := aZ_ H
          clear H
          obtain ⟨Ao64, co64, eo64⟩ := Kd.V_slice HO_6.out
          subst eo64
          go_wp2
          go_loopg [12] k2 (fun kq v12 w' => ∃ (x12_3 : Int), v12 = .int .i64 x12_3 ∧ Aside0 (chancellaw9_AboveGoes.l4 kq t535 x4_1 x12_3 ((rd_T38 t535 x4_1).f0.f0) ((rd_T38 t535 x4_1).f0.f1) = some r) ∧ Aside0 (kq ≤ k2) ∧ Aside0 (Kd.N k38 38 w' w.heap.size (fun k_ => k_ ≠ gb539) (.slice (some ad538) t535.length co12) t535) ∧ Aside0 (w'.heap[gb539]? = some (.cells #[.string ((rd_T38 t535 x4_1).f0.f0), .string ((rd_T38 t535 x4_1).f0.f1)] 28 (0, 0))) ∧ Aside0 (Kd.C k28 w' A538_2 ((rd_T38 t535 x4_1).f1).length ((rd_T38 t535 x4_1).f1)) ∧ Aside0 (Kd.C k58 w' A538_3 ((rd_T38 t535 x4_1).f2).length ((rd_T38 t535 x4_1).f2)) ∧ Aside0 (Below w.heap.size w w'))
          case atStart => exact ⟨(0), rf_, H', ⟨Nat.le_refl _⟩, ⟨kN HO_3⟩, ⟨bk BK539⟩, ⟨kD HR538_2⟩, ⟨kD HR538_3⟩, ⟨bl1 HB GE539⟩⟩
          case round =>
           clear H'
           try clear c1
           try clear c2
           try clear p2
           try clear c3
           try clear c4
           try clear c5
           try clear p5
           try clear q5
           try clear hx5
           try clear p6
           try clear c16
           try clear c18
           try clear c18b0
           try clear c19
           try clear c20
           try clear c21
           try clear c32
           try clear c33
           try clear c34
           try clear c36
           try clear c48
           try clear c49
           try clear c49b0
           try clear c50
           try clear c50b0
           try clear c53
           try clear c53b0
           try clear c54
           try clear c54b0
           try clear p54
           try clear q54
           try clear hx54
           try clear p55
           try clear q55
           try clear hx55
           try clear c56
           try clear p64
           try clear hx549_0
           try clear hx549_1
           try clear hx553_0
           try clear hx553_1
           try clear hx557_0
           try clear hx557_1
           try clear p2
           try clear p5
           try clear p549
           try clear p553
           try clear p557
           try clear q5
           try clear q549
           try clear q553
           try clear q557
           obtain ⟨x12_3, rfl, HA, HK3, HO_3, BK539, HR538_2, HR538_3, HB⟩ := hrel
           cases gk with
           | zero => exact absurd HA.out (by simp [chancellaw9_AboveGoes.l4])
           | succ k3 =>
            have H := HA.out
            clear HA
            simp only [chancellaw9_AboveGoes.l4] at H
            by_cases c65 : 0 ≤ x4_1
            ·
             rw [if_pos c65] at H
             have c65b0 : decide (0 ≤ x4_1) = true := decide_eq_true c65
             clear c65
             by_cases c66 : x4_1 < (t535.length : Int)
             ·
              rw [if_pos c66] at H
              have c66b0 : decide (x4_1 < (t535.length : Int)) = true := decide_eq_true c66
              clear c66
              by_cases c67 : x12_3 < (((rd_T38 t535 x4_1).f1).length : Int)
              ·
               rw [if_pos c67] at H
               have c67b0 : decide (x12_3 < (((rd_T38 t535 x4_1).f1).length : Int)) = true := decide_eq_true c67
               clear c67
               by_cases c68 : 0 ≤ x12_3
               ·
                rw [if_pos c68] at H
                have c68b0 : decide (0 ≤ x12_3) = true := decide_eq_true c68
                clear c68
                replace H := Option.bind_eq_some_iff.mp H
                obtain ⟨t562, A690, H⟩ := H
                replace H : (if t562 = true then (chancellaw9_AboveGoes.l4 k3 t535 x4_1 (wrap64 (x12_3 + 1)) ((rd_T38 t535 x4_1).f0.f0) ((rd_T38 t535 x4_1).f0.f1)) else (some false)) = some r := H
                have A69 := aZ_ A690
                clear A690
                by_cases c70 : t562 = true
                ·
                 subst c70
                 have H1 : (chancellaw9_AboveGoes.l4 k3 t535 x4_1 (wrap64 (x12_3 + 1)) ((rd_T38 t535 x4_1).f0.f0) ((rd_T38 t535 x4_1).f0.f1)) = some r := by rw [if_pos rfl] at H; exact H
                 clear H
                 have H := H1
                 clear H1
                 have H' := aZ_ H
                 clear H
                 have p559 : 0 ≤ (x4_1 : Int) := of_decide_eq_true asm_
                 have q559 : x4_1 < (t535.length : Int) := of_decide_eq_true asm_
                 obtain ⟨ad559, A559_2, c559_2, A559_3, c559_3, e559, hx559_0, hx559_1, hx559_2, hx559_3, hl559_2, hi559_2, hl559_3, hi559_3⟩ := at_T38 (Kd.N_reads' HO_3.out).2.2 x4_1 p559 q559
                 obtain rfl : ad538 = ad559 := (by injection e559)
                 obtain ⟨ce559, hce559, hMe559, hcc559⟩ := Kd.N_get HO_3.out z38 x4_1 p559 (by first | exact q559 | exact of_decide_eq_true asm_ | (have e_ := (Kd.N_reads' HO_3.out).1; omega))
                 obtain ⟨ua559_2, uc559_2, ua559_3, uc559_3, rfl, ul559_2, ge559_2, ul559_3, ge559_3⟩ := k38_openF hMe559
                 have hv559_2 := hcc559 2 _ rfl
                 rw [add_field _ _ 2 (by omega)] at hv559_2
                 replace hv559_2 := Option.some.inj (hv559_2.symm.trans hx559_2)
                 injection hv559_2 with hva_ hvn_ hvc_
                 rw [hva_] at ge559_2
                 rw [hvc_] at ul559_2
                 have HL559_2 := aZ_ (show Kd.V k28 28 _ w.heap.size _ _ ((rd_T38 t535 x4_1).f1) from Kd.V_mk ul559_2 ge559_2)
                 clear hva_ hvn_ hvc_ ge559_2 ul559_2
                 have hv559_3 := hcc559 3 _ rfl
                 rw [add_field _ _ 3 (by omega)] at hv559_3
                 replace hv559_3 := Option.some.inj (hv559_3.symm.trans hx559_3)
                 injection hv559_3 with hva_ hvn_ hvc_
                 rw [hva_] at ge559_3
                 rw [hvc_] at ul559_3
                 have HL559_3 := aZ_ (show Kd.V k58 58 _ w.heap.size _ _ ((rd_T38 t535 x4_1).f2) from Kd.V_mk ul559_3 ge559_3)
                 clear hva_ hvn_ hvc_ ge559_3 ul559_3
                 clear hcc559 hce559
                 have HR559_2 := aZ_ hi559_2
                 have HC559_2 := aZ_ hl559_2
                 clear hi559_2 hl559_2
                 have HR559_3 := aZ_ hi559_3
                 have HC559_3 := aZ_ hl559_3
                 clear hi559_3 hl559_3
                 replace p559 := eq_true p559
                 replace q559 := eq_true q559
                 try go_wp2
                 replace HO_3 := aZ_ (Kd.N_drew HO_3.out)
                 replace HL559_2 := aZ_ (Kd.V_drew HL559_2.out)
                 replace HL559_3 := aZ_ (Kd.V_drew HL559_3.out)
                 replace BK539 := aZ_ (blk_drew BK539.out)
                 replace HR538_2 := aZ_ (Kd.C_drew HR538_2.out)
                 replace HR538_3 := aZ_ (Kd.C_drew HR538_3.out)
                 replace HR559_2 := aZ_ (Kd.C_drew HR559_2.out)
                 replace HR559_3 := aZ_ (Kd.C_drew HR559_3.out)
                 replace HB := aZ_ (below_drew1 HB.out)
                 have p560 : 0 ≤ (x4_1 : Int) := of_decide_eq_true asm_
                 have q560 : x4_1 < (t535.length : Int) := of_decide_eq_true asm_
                 obtain ⟨ad560, A560_2, c560_2, A560_3, c560_3, e560, hx560_0, hx560_1, hx560_2, hx560_3, hl560_2, hi560_2, hl560_3, hi560_3⟩ := at_T38 (Kd.N_reads' HO_3.out).2.2 x4_1 p560 q560
                 obtain rfl : ad538 = ad560 := (by injection e560)
                 obtain ⟨ce560, hce560, hMe560, hcc560⟩ := Kd.N_get HO_3.out z38 x4_1 p560 (by first | exact q560 | exact of_decide_eq_true asm_ | (have e_ := (Kd.N_reads' HO_3.out).1; omega))
                 obtain ⟨ua560_2, uc560_2, ua560_3, uc560_3, rfl, ul560_2, ge560_2, ul560_3, ge560_3⟩ := k38_openF hMe560
                 have hv560_2 := hcc560 2 _ rfl
                 rw [add_field _ _ 2 (by omega)] at hv560_2
                 replace hv560_2 := Option.some.inj (hv560_2.symm.trans hx560_2)
                 injection hv560_2 with hva_ hvn_ hvc_
                 rw [hva_] at ge560_2
                 rw [hvc_] at ul560_2
                 have HL560_2 := aZ_ (show Kd.V k28 28 _ w.heap.size _ _ ((rd_T38 t535 x4_1).f1) from Kd.V_mk ul560_2 ge560_2)
                 clear hva_ hvn_ hvc_ ge560_2 ul560_2
                 have hv560_3 := hcc560 3 _ rfl
                 rw [add_field _ _ 3 (by omega)] at hv560_3
                 replace hv560_3 := Option.some.inj (hv560_3.symm.trans hx560_3)
                 injection hv560_3 with hva_ hvn_ hvc_
                 rw [hva_] at ge560_3
                 rw [hvc_] at ul560_3
                 have HL560_3 := aZ_ (show Kd.V k58 58 _ w.heap.size _ _ ((rd_T38 t535 x4_1).f2) from Kd.V_mk ul560_3 ge560_3)
                 clear hva_ hvn_ hvc_ ge560_3 ul560_3
                 clear hcc560 hce560
                 have HR560_2 := aZ_ hi560_2
                 have HC560_2 := aZ_ hl560_2
                 clear hi560_2 hl560_2
                 have HR560_3 := aZ_ hi560_3
                 have HC560_3 := aZ_ hl560_3
                 clear hi560_3 hl560_3
                 replace p560 := eq_true p560
                 replace q560 := eq_true q560
                 have p561 : 0 ≤ (x12_3 : Int) := of_decide_eq_true asm_
                 have q561 : x12_3 < (((rd_T38 t535 x4_1).f1).length : Int) := of_decide_eq_true asm_
                 obtain ⟨ad561, e561, hx561_0, hx561_1⟩ := at_T28 (kD HR560_2) x12_3 p561 q561
                 cases e561
                 replace p561 := eq_true p561
                 replace q561 := eq_true q561
                 refine start_ (n := 12) (S := fun w' => w'.cell? ⟨gb539, 0, none⟩ = some (.string ((rd_T38 t535 x4_1).f0.f0)) ∧ w'.cell? ⟨gb539, 1, none⟩ = some (.string ((rd_T38 t535 x4_1).f0.f1)) ∧ w'.cell? (ad538.add ((x4_1).toNat * 4)) = some (.string ((rd_T38 t535 x4_1).f0.f0)) ∧ w'.cell? ⟨(ad538.add ((x4_1).toNat * 4)).block, (ad538.add ((x4_1).toNat * 4)).off + 1, none⟩ = some (.string ((rd_T38 t535 x4_1).f0.f1)) ∧ w'.cell? ⟨(ad538.add ((x4_1).toNat * 4)).block, (ad538.add ((x4_1).toNat * 4)).off + 2, none⟩ = some (.slice (some ad561) ((rd_T38 t535 x4_1).f1).length c560_2) ∧ w'.cell? ⟨(ad538.add ((x4_1).toNat * 4)).block, (ad538.add ((x4_1).toNat * 4)).off + 3, none⟩ = some (.slice A560_3 ((rd_T38 t535 x4_1).f2).length c560_3) ∧ w'.cell? (ad561.add ((x12_3).toNat * 2)) = some (.string ((rd_T28 ((rd_T38 t535 x4_1).f1) x12_3).f0)) ∧ w'.cell? ⟨(ad561.add ((x12_3).toNat * 2)).block, (ad561.add ((x12_3).toNat * 2)).off + 1, none⟩ = some (.string ((rd_T28 ((rd_T38 t535 x4_1).f1) x12_3).f1))) (ds := []) #[false, false, false, false, false, false, false, false, false, false, false, false] (by kernel_rfl) rfl rfl ⟨(blk_cell BK539.out 0).trans rfl, (blk_cell BK539.out 1).trans rfl, hx560_0, hx560_1, hx560_2, hx560_3, hx561_0, hx561_1⟩ (fun hHeld => ?_); refine with_tabW chancellaw9_AboveGoes.tab30 chancellaw9_AboveGoes.bits30 (fun HT_ HW_ => ?_)
                 generalize wr.drew = w71 at HO_3 HL559_2 HL559_3 BK539 HR538_2 HR538_3 HR559_2 HR559_3 HB HL560_2 HL560_3 HR560_2 HR560_3 hx560_0 hx560_1 hx560_2 hx560_3 hx561_0 hx561_1 hHeld ⊢
                 refine pS_ 0 127 (fa 12 1) HT_ ?_
                 refine pS_ 2 129 (fa 12 5) HT_ ?_
                 refine pS_ 3 130 (fa 12 13) HT_ ?_
                 refine pS_ 4 131 (fa 12 29) HT_ ?_
                 refine pS_ 5 132 (fa 12 61) HT_ ?_
                 refine pS_ 7 134 (fa 12 189) HT_ ?_
                 refine tS_ 1 128 (fa 12 191) HT_ HW_ hHeld ?_
                 refine tS_ 6 133 (fa 12 255) HT_ HW_ hHeld ?_
                 refine pS_ 8 135 (fa 12 511) HT_ ?_
                 refine tS_ 9 136 (fa 12 1023) HT_ HW_ hHeld ?_
                 refine one_ (i := 10) (N := some 137) #[true, true, true, true, true, true, true, true, true, true, true, false] rfl rfl (one_of HT_.out (by kernel_rfl)) (by decide) (fun K hK => ?_)
                 refine goes_ Try.func16 (by kernel_rfl) rfl #[.slice (some ad538) t535.length co12, .agg #[.string ((rd_T38 t535 x4_1).f0.f0), .string ((rd_T38 t535 x4_1).f0.f1)], .agg #[.string ((rd_T28 ((rd_T38 t535 x4_1).f1) x12_3).f0), .string ((rd_T28 ((rd_T38 t535 x4_1).f1) x12_3).f1)]] (by rfl) rfl rfl gm_ ?_
                 with_reducible refine (above_In.calls _ _ t535 ((rd_T38 t535 x4_1).f0.f0) ((rd_T38 t535 x4_1).f0.f1) ((rd_T28 ((rd_T38 t535 x4_1).f1) x12_3).f0) ((rd_T28 ((rd_T38 t535 x4_1).f1) x12_3).f1) true _ ?side1 ?side2 A69.out).mono ?_
                 (case side1 => repeat (first | exact (Kd.N_reads' HO_3.out).2.2 | (with_reducible refine Kd.C_alloc ?_ _) | (with_reducible refine Kd.C_drewN ?_ _) | (with_reducible refine Kd.C_drew ?_)))
                 (case side2 => exact (Kd.N_reads' HO_3.out).2.1)
                 rintro e w72 ⟨rfl, hb⟩
                 have HS2_ := (hbc hb (hHeld.2.2.1) :)
                 have HS3_ := (hbc hb (hHeld.2.2.2.1) :)
                 have HS4_ := (hbc hb (hHeld.2.2.2.2.1) :)
                 have HS5_ := (hbc hb (hHeld.2.2.2.2.2.1) :)
                 have HS6_ := (hbc hb (hHeld.2.2.2.2.2.2.1) :)
                 have HS7_ := (hbc hb (hHeld.2.2.2.2.2.2.2) :)
                 refine ⟨_, rfl, ?_⟩
                 replace HO_3 := aZ_ (Kd.N_below (kN HO_3) hb)
                 replace HL559_2 := aZ_ (Kd.V_below (kV HL559_2) hb)
                 replace HL559_3 := aZ_ (Kd.V_below (kV HL559_3) hb)
                 replace HL560_2 := aZ_ (Kd.V_below (kV HL560_2) hb)
                 replace HL560_3 := aZ_ (Kd.V_below (kV HL560_3) hb)
                 replace BK539 := aZ_ (blk_below (g := gb539) (o := .cells #[.string ((rd_T38 t535 x4_1).f0.f0), .string ((rd_T38 t535 x4_1).f0.f1)] 28 (0, 0)) (bk BK539) hb)
                 replace HR538_2 := aZ_ (Kd.C_below (kD HR538_2) hb)
                 replace HR538_3 := aZ_ (Kd.C_below (kD HR538_3) hb)
                 replace HR559_2 := aZ_ (Kd.C_below (kD HR559_2) hb)
                 replace HR559_3 := aZ_ (Kd.C_below (kD HR559_3) hb)
                 replace HR560_2 := aZ_ (Kd.C_below (kD HR560_2) hb)
                 replace HR560_3 := aZ_ (Kd.C_below (kD HR560_3) hb)
                 replace HB := aZ_ (below_step (bl1 HB GE539) hb)
                 (try clear hb)
                 (try clear hb2)
                 (try clear hk)
                 (try clear hi)
                 refine hK.out _ _ ⟨(blk_cell BK539.out 0).trans rfl, (blk_cell BK539.out 1).trans rfl, HS2_, HS3_, HS4_, HS5_, HS6_, HS7_⟩ (fun hHeld => ?_)
                 clear hK K
                 refine norm_ (a' := ?_) ?_ ?_
                 rotate_left
                 ·
                  show Act.put _ (some 137) _ = _
                  simp only [Act.put, List.setIfInBounds_toArray, List.set_cons_zero, List.set_cons_succ, i64_w, i32_w]
                  rfl
                 refine pS_ 11 138 (fa 12 4095) HT_ ?_
                 refine done_ (done_of HT_.out (by kernel_rfl)) ?_
                 try go_wp2
                 go_roundg k3
                 case measure => have := HK1.out; have := HK2.out; have := HK3.out; omega
                 case rel => exact ⟨(wrap64 (x12_3 + 1)), rf_, H', ⟨by have := HK1.out; have := HK2.out; have := HK3.out; omega⟩, ⟨kN HO_3⟩, ⟨bk BK539⟩, ⟨kD HR538_2⟩, ⟨kD HR538_3⟩, ⟨bl1 HB GE539⟩⟩
                ·
                 replace c70 := Bool.eq_false_iff.mpr c70
                 subst c70
                 have H1 : (some false) = some r := by rw [if_neg (show ¬ (false = true) by decide)] at H; exact H
                 clear H
                 have H := H1
                 clear H1
                 obtain rfl := Option.some.inj H
                 have p559 : 0 ≤ (x4_1 : Int) := of_decide_eq_true asm_
                 have q559 : x4_1 < (t535.length : Int) := of_decide_eq_true asm_
                 obtain ⟨ad559, A559_2, c559_2, A559_3, c559_3, e559, hx559_0, hx559_1, hx559_2, hx559_3, hl559_2, hi559_2, hl559_3, hi559_3⟩ := at_T38 (Kd.N_reads' HO_3.out).2.2 x4_1 p559 q559
                 obtain rfl : ad538 = ad559 := (by injection e559)
                 obtain ⟨ce559, hce559, hMe559, hcc559⟩ := Kd.N_get HO_3.out z38 x4_1 p559 (by first | exact q559 | exact of_decide_eq_true asm_ | (have e_ := (Kd.N_reads' HO_3.out).1; omega))
                 obtain ⟨ua559_2, uc559_2, ua559_3, uc559_3, rfl, ul559_2, ge559_2, ul559_3, ge559_3⟩ := k38_openF hMe559
                 have hv559_2 := hcc559 2 _ rfl
                 rw [add_field _ _ 2 (by omega)] at hv559_2
                 replace hv559_2 := Option.some.inj (hv559_2.symm.trans hx559_2)
                 injection hv559_2 with hva_ hvn_ hvc_
                 rw [hva_] at ge559_2
                 rw [hvc_] at ul559_2
                 have HL559_2 := aZ_ (show Kd.V k28 28 _ w.heap.size _ _ ((rd_T38 t535 x4_1).f1) from Kd.V_mk ul559_2 ge559_2)
                 clear hva_ hvn_ hvc_ ge559_2 ul559_2
                 have hv559_3 := hcc559 3 _ rfl
                 rw [add_field _ _ 3 (by omega)] at hv559_3
                 replace hv559_3 := Option.some.inj (hv559_3.symm.trans hx559_3)
                 injection hv559_3 with hva_ hvn_ hvc_
                 rw [hva_] at ge559_3
                 rw [hvc_] at ul559_3
                 have HL559_3 := aZ_ (show Kd.V k58 58 _ w.heap.size _ _ ((rd_T38 t535 x4_1).f2) from Kd.V_mk ul559_3 ge559_3)
                 clear hva_ hvn_ hvc_ ge559_3 ul559_3
                 clear hcc559 hce559
                 have HR559_2 := aZ_ hi559_2
                 have HC559_2 := aZ_ hl559_2
                 clear hi559_2 hl559_2
                 have HR559_3 := aZ_ hi559_3
                 have HC559_3 := aZ_ hl559_3
                 clear hi559_3 hl559_3
                 replace p559 := eq_true p559
                 replace q559 := eq_true q559
                 try go_wp2
                 replace HO_3 := aZ_ (Kd.N_drew HO_3.out)
                 replace HL559_2 := aZ_ (Kd.V_drew HL559_2.out)
                 replace HL559_3 := aZ_ (Kd.V_drew HL559_3.out)
                 replace BK539 := aZ_ (blk_drew BK539.out)
                 replace HR538_2 := aZ_ (Kd.C_drew HR538_2.out)
                 replace HR538_3 := aZ_ (Kd.C_drew HR538_3.out)
                 replace HR559_2 := aZ_ (Kd.C_drew HR559_2.out)
                 replace HR559_3 := aZ_ (Kd.C_drew HR559_3.out)
                 replace HB := aZ_ (below_drew1 HB.out)
                 have p560 : 0 ≤ (x4_1 : Int) := of_decide_eq_true asm_
                 have q560 : x4_1 < (t535.length : Int) := of_decide_eq_true asm_
                 obtain ⟨ad560, A560_2, c560_2, A560_3, c560_3, e560, hx560_0, hx560_1, hx560_2, hx560_3, hl560_2, hi560_2, hl560_3, hi560_3⟩ := at_T38 (Kd.N_reads' HO_3.out).2.2 x4_1 p560 q560
                 obtain rfl : ad538 = ad560 := (by injection e560)
                 obtain ⟨ce560, hce560, hMe560, hcc560⟩ := Kd.N_get HO_3.out z38 x4_1 p560 (by first | exact q560 | exact of_decide_eq_true asm_ | (have e_ := (Kd.N_reads' HO_3.out).1; omega))
                 obtain ⟨ua560_2, uc560_2, ua560_3, uc560_3, rfl, ul560_2, ge560_2, ul560_3, ge560_3⟩ := k38_openF hMe560
                 have hv560_2 := hcc560 2 _ rfl
                 rw [add_field _ _ 2 (by omega)] at hv560_2
                 replace hv560_2 := Option.some.inj (hv560_2.symm.trans hx560_2)
                 injection hv560_2 with hva_ hvn_ hvc_
                 rw [hva_] at ge560_2
                 rw [hvc_] at ul560_2
                 have HL560_2 := aZ_ (show Kd.V k28 28 _ w.heap.size _ _ ((rd_T38 t535 x4_1).f1) from Kd.V_mk ul560_2 ge560_2)
                 clear hva_ hvn_ hvc_ ge560_2 ul560_2
                 have hv560_3 := hcc560 3 _ rfl
                 rw [add_field _ _ 3 (by omega)] at hv560_3
                 replace hv560_3 := Option.some.inj (hv560_3.symm.trans hx560_3)
                 injection hv560_3 with hva_ hvn_ hvc_
                 rw [hva_] at ge560_3
                 rw [hvc_] at ul560_3
                 have HL560_3 := aZ_ (show Kd.V k58 58 _ w.heap.size _ _ ((rd_T38 t535 x4_1).f2) from Kd.V_mk ul560_3 ge560_3)
                 clear hva_ hvn_ hvc_ ge560_3 ul560_3
                 clear hcc560 hce560
                 have HR560_2 := aZ_ hi560_2
                 have HC560_2 := aZ_ hl560_2
                 clear hi560_2 hl560_2
                 have HR560_3 := aZ_ hi560_3
                 have HC560_3 := aZ_ hl560_3
                 clear hi560_3 hl560_3
                 replace p560 := eq_true p560
                 replace q560 := eq_true q560
                 have p561 : 0 ≤ (x12_3 : Int) := of_decide_eq_true asm_
                 have q561 : x12_3 < (((rd_T38 t535 x4_1).f1).length : Int) := of_decide_eq_true asm_
                 obtain ⟨ad561, e561, hx561_0, hx561_1⟩ := at_T28 (kD HR560_2) x12_3 p561 q561
                 cases e561
                 replace p561 := eq_true p561
                 replace q561 := eq_true q561
                 refine start_ (n := 12) (S := fun w' => w'.cell? ⟨gb539, 0, none⟩ = some (.string ((rd_T38 t535 x4_1).f0.f0)) ∧ w'.cell? ⟨gb539, 1, none⟩ = some (.string ((rd_T38 t535 x4_1).f0.f1)) ∧ w'.cell? (ad538.add ((x4_1).toNat * 4)) = some (.string ((rd_T38 t535 x4_1).f0.f0)) ∧ w'.cell? ⟨(ad538.add ((x4_1).toNat * 4)).block, (ad538.add ((x4_1).toNat * 4)).off + 1, none⟩ = some (.string ((rd_T38 t535 x4_1).f0.f1)) ∧ w'.cell? ⟨(ad538.add ((x4_1).toNat * 4)).block, (ad538.add ((x4_1).toNat * 4)).off + 2, none⟩ = some (.slice (some ad561) ((rd_T38 t535 x4_1).f1).length c560_2) ∧ w'.cell? ⟨(ad538.add ((x4_1).toNat * 4)).block, (ad538.add ((x4_1).toNat * 4)).off + 3, none⟩ = some (.slice A560_3 ((rd_T38 t535 x4_1).f2).length c560_3) ∧ w'.cell? (ad561.add ((x12_3).toNat * 2)) = some (.string ((rd_T28 ((rd_T38 t535 x4_1).f1) x12_3).f0)) ∧ w'.cell? ⟨(ad561.add ((x12_3).toNat * 2)).block, (ad561.add ((x12_3).toNat * 2)).off + 1, none⟩ = some (.string ((rd_T28 ((rd_T38 t535 x4_1).f1) x12_3).f1))) (ds := []) #[false, false, false, false, false, false, false, false, false, false, false, false] (by kernel_rfl) rfl rfl ⟨(blk_cell BK539.out 0).trans rfl, (blk_cell BK539.out 1).trans rfl, hx560_0, hx560_1, hx560_2, hx560_3, hx561_0, hx561_1⟩ (fun hHeld => ?_); refine with_tabW chancellaw9_AboveGoes.tab30 chancellaw9_AboveGoes.bits30 (fun HT_ HW_ => ?_)
                 generalize wr.drew = w73 at HO_3 HL559_2 HL559_3 BK539 HR538_2 HR538_3 HR559_2 HR559_3 HB HL560_2 HL560_3 HR560_2 HR560_3 hx560_0 hx560_1 hx560_2 hx560_3 hx561_0 hx561_1 hHeld ⊢
                 refine pS_ 0 127 (fa 12 1) HT_ ?_
                 refine pS_ 2 129 (fa 12 5) HT_ ?_
                 refine pS_ 3 130 (fa 12 13) HT_ ?_
                 refine pS_ 4 131 (fa 12 29) HT_ ?_
                 refine pS_ 5 132 (fa 12 61) HT_ ?_
                 refine pS_ 7 134 (fa 12 189) HT_ ?_
                 refine tS_ 1 128 (fa 12 191) HT_ HW_ hHeld ?_
                 refine tS_ 6 133 (fa 12 255) HT_ HW_ hHeld ?_
                 refine pS_ 8 135 (fa 12 511) HT_ ?_
                 refine tS_ 9 136 (fa 12 1023) HT_ HW_ hHeld ?_
                 refine one_ (i := 10) (N := some 137) #[true, true, true, true, true, true, true, true, true, true, true, false] rfl rfl (one_of HT_.out (by kernel_rfl)) (by decide) (fun K hK => ?_)
                 refine goes_ Try.func16 (by kernel_rfl) rfl #[.slice (some ad538) t535.length co12, .agg #[.string ((rd_T38 t535 x4_1).f0.f0), .string ((rd_T38 t535 x4_1).f0.f1)], .agg #[.string ((rd_T28 ((rd_T38 t535 x4_1).f1) x12_3).f0), .string ((rd_T28 ((rd_T38 t535 x4_1).f1) x12_3).f1)]] (by rfl) rfl rfl gm_ ?_
                 with_reducible refine (above_In.calls _ _ t535 ((rd_T38 t535 x4_1).f0.f0) ((rd_T38 t535 x4_1).f0.f1) ((rd_T28 ((rd_T38 t535 x4_1).f1) x12_3).f0) ((rd_T28 ((rd_T38 t535 x4_1).f1) x12_3).f1) false _ ?side1 ?side2 A69.out).mono ?_
                 (case side1 => repeat (first | exact (Kd.N_reads' HO_3.out).2.2 | (with_reducible refine Kd.C_alloc ?_ _) | (with_reducible refine Kd.C_drewN ?_ _) | (with_reducible refine Kd.C_drew ?_)))
                 (case side2 => exact (Kd.N_reads' HO_3.out).2.1)
                 rintro e w74 ⟨rfl, hb⟩
                 have HS2_ := (hbc hb (hHeld.2.2.1) :)
                 have HS3_ := (hbc hb (hHeld.2.2.2.1) :)
                 have HS4_ := (hbc hb (hHeld.2.2.2.2.1) :)
                 have HS5_ := (hbc hb (hHeld.2.2.2.2.2.1) :)
                 have HS6_ := (hbc hb (hHeld.2.2.2.2.2.2.1) :)
                 have HS7_ := (hbc hb (hHeld.2.2.2.2.2.2.2) :)
                 refine ⟨_, rfl, ?_⟩
                 replace HO_3 := aZ_ (Kd.N_below (kN HO_3) hb)
                 replace HL559_2 := aZ_ (Kd.V_below (kV HL559_2) hb)
                 replace HL559_3 := aZ_ (Kd.V_below (kV HL559_3) hb)
                 replace HL560_2 := aZ_ (Kd.V_below (kV HL560_2) hb)
                 replace HL560_3 := aZ_ (Kd.V_below (kV HL560_3) hb)
                 replace BK539 := aZ_ (blk_below (g := gb539) (o := .cells #[.string ((rd_T38 t535 x4_1).f0.f0), .string ((rd_T38 t535 x4_1).f0.f1)] 28 (0, 0)) (bk BK539) hb)
                 replace HR538_2 := aZ_ (Kd.C_below (kD HR538_2) hb)
                 replace HR538_3 := aZ_ (Kd.C_below (kD HR538_3) hb)
                 replace HR559_2 := aZ_ (Kd.C_below (kD HR559_2) hb)
                 replace HR559_3 := aZ_ (Kd.C_below (kD HR559_3) hb)
                 replace HR560_2 := aZ_ (Kd.C_below (kD HR560_2) hb)
                 replace HR560_3 := aZ_ (Kd.C_below (kD HR560_3) hb)
                 replace HB := aZ_ (below_step (bl1 HB GE539) hb)
                 (try clear hb)
                 (try clear hb2)
                 (try clear hk)
                 (try clear hi)
                 refine hK.out _ _ ⟨(blk_cell BK539.out 0).trans rfl, (blk_cell BK539.out 1).trans rfl, HS2_, HS3_, HS4_, HS5_, HS6_, HS7_⟩ (fun hHeld => ?_)
                 clear hK K
                 refine norm_ (a' := ?_) ?_ ?_
                 rotate_left
                 ·
                  show Act.put _ (some 137) _ = _
                  simp only [Act.put, List.setIfInBounds_toArray, List.set_cons_zero, List.set_cons_succ, i64_w, i32_w]
                  rfl
                 refine pS_ 11 138 (fa 12 4095) HT_ ?_
                 refine done_ (done_of HT_.out (by kernel_rfl)) ?_
                 try go_wp2
                 go_ret
                 exact ⟨by first | rfl | (simp [errW_none, errW_some] <;> rfl) | (simp [*, errW_none, errW_some] <;> rfl), bl1 HB GE539⟩
               ·
                rw [if_neg c68] at H
                exact absurd H (by simp)
              ·
               rw [if_neg c67] at H
               have c67b0 : decide (x12_3 < (((rd_T38 t535 x4_1).f1).length : Int)) = false := decide_eq_false c67
               clear c67
               have H' := aZ_ H
               clear H
               have p559 : 0 ≤ (x4_1 : Int) := of_decide_eq_true asm_
               have q559 : x4_1 < (t535.length : Int) := of_decide_eq_true asm_
               obtain ⟨ad559, A559_2, c559_2, A559_3, c559_3, e559, hx559_0, hx559_1, hx559_2, hx559_3, hl559_2, hi559_2, hl559_3, hi559_3⟩ := at_T38 (Kd.N_reads' HO_3.out).2.2 x4_1 p559 q559
               obtain rfl : ad538 = ad559 := (by injection e559)
               obtain ⟨ce559, hce559, hMe559, hcc559⟩ := Kd.N_get HO_3.out z38 x4_1 p559 (by first | exact q559 | exact of_decide_eq_true asm_ | (have e_ := (Kd.N_reads' HO_3.out).1; omega))
               obtain ⟨ua559_2, uc559_2, ua559_3, uc559_3, rfl, ul559_2, ge559_2, ul559_3, ge559_3⟩ := k38_openF hMe559
               have hv559_2 := hcc559 2 _ rfl
               rw [add_field _ _ 2 (by omega)] at hv559_2
               replace hv559_2 := Option.some.inj (hv559_2.symm.trans hx559_2)
               injection hv559_2 with hva_ hvn_ hvc_
               rw [hva_] at ge559_2
               rw [hvc_] at ul559_2
               have HL559_2 := aZ_ (show Kd.V k28 28 _ w.heap.size _ _ ((rd_T38 t535 x4_1).f1) from Kd.V_mk ul559_2 ge559_2)
               clear hva_ hvn_ hvc_ ge559_2 ul559_2
               have hv559_3 := hcc559 3 _ rfl
               rw [add_field _ _ 3 (by omega)] at hv559_3
               replace hv559_3 := Option.some.inj (hv559_3.symm.trans hx559_3)
               injection hv559_3 with hva_ hvn_ hvc_
               rw [hva_] at ge559_3
               rw [hvc_] at ul559_3
               have HL559_3 := aZ_ (show Kd.V k58 58 _ w.heap.size _ _ ((rd_T38 t535 x4_1).f2) from Kd.V_mk ul559_3 ge559_3)
               clear hva_ hvn_ hvc_ ge559_3 ul559_3
               clear hcc559 hce559
               have HR559_2 := aZ_ hi559_2
               have HC559_2 := aZ_ hl559_2
               clear hi559_2 hl559_2
               have HR559_3 := aZ_ hi559_3
               have HC559_3 := aZ_ hl559_3
               clear hi559_3 hl559_3
               replace p559 := eq_true p559
               replace q559 := eq_true q559
               go_wp2
               go_roundg k3
               case measure => have := HK1.out; have := HK2.out; have := HK3.out; omega
               case rel => exact ⟨(wrap64 (x4_1 + 1)), rf_, H', ⟨by have := HK1.out; have := HK2.out; have := HK3.out; omega⟩, ⟨by (with_reducible repeat (first | apply Kd.N_alloc | apply Kd.N_drewN | apply Kd.N_drew)); exact Kd.N_mono HO_3.out (fun _ hk => trivial)⟩, ⟨bl1 HB GE539⟩⟩
             ·
              rw [if_neg c66] at H
              exact absurd H (by simp)
            ·
             rw [if_neg c65] at H
             exact absurd H (by simp)
      ·
       replace c10 := Bool.eq_false_iff.mpr c10
       subst c10
       have H1 : (some false) = some r := by rw [if_neg (show ¬ (false = true) by decide)] at H; exact H
       clear H
       have H := H1
       clear H1
       obtain rfl := Option.some.inj H
       obtain ⟨Ao75, co75, eo75⟩ := Kd.N_slice HO_3.out
       subst eo75
       have p538 : 0 ≤ (x4_1 : Int) := of_decide_eq_true asm_
       have q538 : x4_1 < (t535.length : Int) := of_decide_eq_true asm_
       obtain ⟨ad538, A538_2, c538_2, A538_3, c538_3, e538, hx538_0, hx538_1, hx538_2, hx538_3, hl538_2, hi538_2, hl538_3, hi538_3⟩ := at_T38 (Kd.N_reads' HO_3.out).2.2 x4_1 p538 q538
       cases e538
       obtain ⟨ce538, hce538, hMe538, hcc538⟩ := Kd.N_get HO_3.out z38 x4_1 p538 (by first | exact q538 | exact of_decide_eq_true asm_ | (have e_ := (Kd.N_reads' HO_3.out).1; omega))
       obtain ⟨ua538_2, uc538_2, ua538_3, uc538_3, rfl, ul538_2, ge538_2, ul538_3, ge538_3⟩ := k38_openF hMe538
       have hv538_2 := hcc538 2 _ rfl
       rw [add_field _ _ 2 (by omega)] at hv538_2
       replace hv538_2 := Option.some.inj (hv538_2.symm.trans hx538_2)
       injection hv538_2 with hva_ hvn_ hvc_
       rw [hva_] at ge538_2
       rw [hvc_] at ul538_2
       have HL538_2 := aZ_ (show Kd.V k28 28 _ w.heap.size _ _ ((rd_T38 t535 x4_1).f1) from Kd.V_mk ul538_2 ge538_2)
       clear hva_ hvn_ hvc_ ge538_2 ul538_2
       have hv538_3 := hcc538 3 _ rfl
       rw [add_field _ _ 3 (by omega)] at hv538_3
       replace hv538_3 := Option.some.inj (hv538_3.symm.trans hx538_3)
       injection hv538_3 with hva_ hvn_ hvc_
       rw [hva_] at ge538_3
       rw [hvc_] at ul538_3
       have HL538_3 := aZ_ (show Kd.V k58 58 _ w.heap.size _ _ ((rd_T38 t535 x4_1).f2) from Kd.V_mk ul538_3 ge538_3)
       clear hva_ hvn_ hvc_ ge538_3 ul538_3
       clear hcc538 hce538
       have HR538_2 := aZ_ hi538_2
       have HC538_2 := aZ_ hl538_2
       clear hi538_2 hl538_2
       have HR538_3 := aZ_ hi538_3
       have HC538_3 := aZ_ hl538_3
       clear hi538_3 hl538_3
       replace p538 := eq_true p538
       replace q538 := eq_true q538
       go_wp2_with (first | ((with_reducible refine gate_dst (N := 5) rfl ?_); refine bxE 5 #[.string (⟨#[]⟩ : ByteArray), .string (⟨#[]⟩ : ByteArray)] 28 ?_; intro gb539 hg w76 hbox hb; replace HO_3 := aZ_ (Kd.N_below (Kd.N_elderB (kN HO_3) gb539 (Nat.le_of_eq hg.symm)) hb); replace HL538_2 := aZ_ (Kd.V_below (Kd.V_elderB (kV HL538_2) gb539 (Nat.le_of_eq hg.symm)) hb); replace HL538_3 := aZ_ (Kd.V_below (Kd.V_elderB (kV HL538_3) gb539 (Nat.le_of_eq hg.symm)) hb); replace HR538_2 := aZ_ (Kd.C_below (kD HR538_2) hb); replace HR538_3 := aZ_ (Kd.C_below (kD HR538_3) hb); have BK539 := aZ_ (hbox); have GW539 := aZ_ ((by rw [hg]; exact (below_size (bl HB)) : w.heap.size ≤ gb539)); have GE539 := aZ_ ((by rw [hg]; exact (below_size (bl HB)) : w.heap.size ≤ gb539)); replace HB := aZ_ (below_step (bl HB) hb); clear hb hbox hg; obtain ⟨hcz77_0, hcz77_1, hfz77_0, hfz77_1⟩ := bc2 BK539) | ((with_reducible refine gate_callee (f := 16) rfl ?_); refine goesL_ (some 31) rfl rfl Try.func16 (by kernel_rfl) rfl #[.slice (some ad538) t535.length co75, .agg #[.string ((rd_T38 t535 x4_1).f0.f0), .string ((rd_T38 t535 x4_1).f0.f1)], .agg #[.string ((rd_T38 t535 x4_1).f0.f0), .string ((rd_T38 t535 x4_1).f0.f1)]] rfl gm_ ?_; (with_reducible refine (above_In.calls _ _ t535 ((rd_T38 t535 x4_1).f0.f0) ((rd_T38 t535 x4_1).f0.f1) ((rd_T38 t535 x4_1).f0.f0) ((rd_T38 t535 x4_1).f0.f1) false _ ?side1 ?side2 A9.out).mono ?_); (case side1 => refine (Kd.N_reads' (e := 38) (base := w.heap.size) (ok := fun k_ => (True ∧ k_ ≠ gb539)) (n := t535.length) (c := co75) ?_).2.2; exact (by (with_reducible repeat (first | apply Kd.N_alloc | apply Kd.N_drewN | apply Kd.N_drew)); exact (Kd.N_mono (Kd.N_far (p := ⟨gb539, 1, none⟩) (Kd.N_far (p := ⟨gb539, 0, none⟩) (Kd.N_mono HO_3.out (fun k_ hk => (⟨hk, hk.2⟩ : _ ∧ k_ ≠ gb539))) (fun _ hk => hk.2) (.string ((rd_T38 t535 x4_1).f0.f0))) (fun _ hk => hk.2) (.string ((rd_T38 t535 x4_1).f0.f1))) (fun _ h_ => h_.1)))); (case side2 => exact (Kd.N_reads' HO_3.out).2.1); rintro e w78 ⟨rfl, hb⟩; refine ⟨_, rfl, ?_⟩; replace HO_3 := aZ_ (Kd.N_below (by (with_reducible repeat (first | apply Kd.N_alloc | apply Kd.N_drewN | apply Kd.N_drew)); exact (Kd.N_mono (Kd.N_far (p := ⟨gb539, 1, none⟩) (Kd.N_far (p := ⟨gb539, 0, none⟩) (Kd.N_mono HO_3.out (fun k_ hk => (⟨hk, hk.2⟩ : _ ∧ k_ ≠ gb539))) (fun _ hk => hk.2) (.string ((rd_T38 t535 x4_1).f0.f0))) (fun _ hk => hk.2) (.string ((rd_T38 t535 x4_1).f0.f1))) (fun _ h_ => h_.1))) hb); replace HR538_2 := aZ_ (Kd.C_below ((Kd.V_reads' (by (with_reducible repeat (first | apply Kd.V_alloc | apply Kd.V_drewN | apply Kd.V_drew)); exact (Kd.V_mono (Kd.V_far (p := ⟨gb539, 1, none⟩) (Kd.V_far (p := ⟨gb539, 0, none⟩) (Kd.V_mono HL538_2.out (fun k_ hk => (⟨hk, hk.2⟩ : _ ∧ k_ ≠ gb539))) (fun _ hk => hk.2) (.string ((rd_T38 t535 x4_1).f0.f0))) (fun _ hk => hk.2) (.string ((rd_T38 t535 x4_1).f0.f1))) (fun _ h_ => h_.1)))).2.2) hb); replace HL538_2 := aZ_ (Kd.V_below (by (with_reducible repeat (first | apply Kd.V_alloc | apply Kd.V_drewN | apply Kd.V_drew)); exact (Kd.V_mono (Kd.V_far (p := ⟨gb539, 1, none⟩) (Kd.V_far (p := ⟨gb539, 0, none⟩) (Kd.V_mono HL538_2.out (fun k_ hk => (⟨hk, hk.2⟩ : _ ∧ k_ ≠ gb539))) (fun _ hk => hk.2) (.string ((rd_T38 t535 x4_1).f0.f0))) (fun _ hk => hk.2) (.string ((rd_T38 t535 x4_1).f0.f1))) (fun _ h_ => h_.1))) hb); replace HR538_3 := aZ_ (Kd.C_below ((Kd.V_reads' (by (with_reducible repeat (first | apply Kd.V_alloc | apply Kd.V_drewN | apply Kd.V_drew)); exact (Kd.V_mono (Kd.V_far (p := ⟨gb539, 1, none⟩) (Kd.V_far (p := ⟨gb539, 0, none⟩) (Kd.V_mono HL538_3.out (fun k_ hk => (⟨hk, hk.2⟩ : _ ∧ k_ ≠ gb539))) (fun _ hk => hk.2) (.string ((rd_T38 t535 x4_1).f0.f0))) (fun _ hk => hk.2) (.string ((rd_T38 t535 x4_1).f0.f1))) (fun _ h_ => h_.1)))).2.2) hb); replace HL538_3 := aZ_ (Kd.V_below (by (with_reducible repeat (first | apply Kd.V_alloc | apply Kd.V_drewN | apply Kd.V_drew)); exact (Kd.V_mono (Kd.V_far (p := ⟨gb539, 1, none⟩) (Kd.V_far (p := ⟨gb539, 0, none⟩) (Kd.V_mono HL538_3.out (fun k_ hk => (⟨hk, hk.2⟩ : _ ∧ k_ ≠ gb539))) (fun _ hk => hk.2) (.string ((rd_T38 t535 x4_1).f0.f0))) (fun _ hk => hk.2) (.string ((rd_T38 t535 x4_1).f0.f1))) (fun _ h_ => h_.1))) hb); replace BK539 := aZ_ (blk_below (g := gb539) (o := .cells #[.string ((rd_T38 t535 x4_1).f0.f0), .string ((rd_T38 t535 x4_1).f0.f1)] 28 (0, 0)) (by (with_reducible repeat (first | refine blk_drewN ?_ _ | refine blk_drew ?_ | refine blk_alloc ?_ _)); refine blk_put (cs := #[.string ((rd_T38 t535 x4_1).f0.f0), .string (⟨#[]⟩ : ByteArray)]) ?_ 1 _ rfl; (with_reducible repeat (first | refine blk_drewN ?_ _ | refine blk_drew ?_ | refine blk_alloc ?_ _)); refine blk_put (cs := #[.string (⟨#[]⟩ : ByteArray), .string (⟨#[]⟩ : ByteArray)]) ?_ 0 _ rfl; (with_reducible repeat (first | refine blk_drewN ?_ _ | refine blk_drew ?_ | refine blk_alloc ?_ _)); exact BK539.out) hb); replace HB := aZ_ (below_step (bl1 HB GE539) hb); (try clear hb); (try clear hb2); (try clear hk); (try clear hi)))
       go_ret
       exact ⟨by first | rfl | (simp [errW_none, errW_some] <;> rfl) | (simp [*, errW_none, errW_some] <;> rfl), bl1 HB GE539⟩
     ·
      rw [if_neg c8] at H
      exact absurd H (by simp)
    ·
     rw [if_neg c7] at H
     have c7b0 : decide (x4_1 < (t535.length : Int)) = false := decide_eq_false c7
     clear c7
     obtain rfl := Option.some.inj H
     obtain ⟨Ao79, co79, eo79⟩ := Kd.N_slice HO_3.out
     subst eo79
     go_wp2
     go_ret
     exact ⟨by first | rfl | (simp [errW_none, errW_some] <;> rfl) | (simp [*, errW_none, errW_some] <;> rfl), bl HB⟩
 ·
  exact absurd trivial c3
end Go.Proofs.Ytelibndkkokadaa.GB
