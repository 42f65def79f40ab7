-- Written by wip/tools/gprint.py over the kit's printer.
import Derived.Test.YtfmghijmcgkpiaaGO0
import Derived.Test.YtfmghijmcgkpiaaGO8
import Derived.Test.YtfmghijmcgkpiaaSqz
namespace Go.Proofs.Ytfmghijmcgkpiaa.GO
open Go.RowKit Go.Proofs.YtfmghijmcgkpiaaW.PrintWords Go.Proofs.YtfmghijmcgkpiaaW.PrintLast Go.Proofs.Ytfmghijmcgkpiaa.HandV Go.Proofs.YtfmghijmcgkpiaaW.PrintMore
attribute [local go_sem] max2_int min2_int max_two min_two max_three min_three max_four min_four   -- for this text's walks alone
set_option linter.unusedVariables false
set_option linter.unusedSimpArgs false

/-! ### chancellaw5_Entity: function 24 -/
mutual
def chancellaw5_Entity.l0 : Nat → Int → Int → Int → List Int → List Int → List (S25) → ByteArray → ByteArray → List (S28) → Option (ByteArray × ByteArray × (List (S28)) × (List (S49)))
 | 0, _, _, _, _, _, _, _, _, _ => none
 | k + 1, x4, x275000, x275001, x275002, x275003, x275004, x282000, x282001, x282002 => if x4 < (x275002.length : Int) then (chancellaw5_Entity.j1 k x4 (decide (x4 < 3)) x275000 x275001 x275002 x275003 x275004 x282000 x282001 x282002) else (chancellaw5_Entity.j1 k x4 false x275000 x275001 x275002 x275003 x275004 x282000 x282001 x282002)
def chancellaw5_Entity.j1 : Nat → Int → Bool → Int → Int → List Int → List Int → List (S25) → ByteArray → ByteArray → List (S28) → Option (ByteArray × ByteArray × (List (S28)) × (List (S49)))
 | 0, _, _, _, _, _, _, _, _, _, _ => none
 | k + 1, x4, x27, x275000, x275001, x275002, x275003, x275004, x282000, x282001, x282002 => if x27 = true then (if 0 ≤ x4 then (if x4 < (x275002.length : Int) then ((chancellaw5_kind.f (rd x275002 x4)).bind fun t283 => ((chancellaw5_within.f (wrap64 (Int.tdiv (rd x275002 x4) 4)) 5).bind fun t285 => (if x282002.length < 4398046511104 then (chancellaw5_Entity.l0 k (wrap64 (x4 + 1)) x275000 x275001 x275002 x275003 x275004 x282000 x282001 (x282002 ++ [(⟨t283, strOfNums (([(wrap64 (97 + t285)) % 256] : List Int))⟩ : S28)])) else (none)))) else (none)) else (none)) else (chancellaw5_Entity.l1 k 0 x275000 x275001 x275002 x275003 x275004 x282000 x282001 x282002 ([] : List (S49)))
def chancellaw5_Entity.l1 : Nat → Int → Int → Int → List Int → List Int → List (S25) → ByteArray → ByteArray → List (S28) → List (S49) → Option (ByteArray × ByteArray × (List (S28)) × (List (S49)))
 | 0, _, _, _, _, _, _, _, _, _, _ => none
 | k + 1, x5, x275000, x275001, x275002, x275003, x275004, x282000, x282001, x282002, x282003 => if x5 < (x275003.length : Int) then (if x5 < (x275004.length : Int) then (chancellaw5_Entity.j3 k x5 (decide (x5 < 3)) x275000 x275001 x275002 x275003 x275004 x282000 x282001 x282002 x282003) else (chancellaw5_Entity.j3 k x5 false x275000 x275001 x275002 x275003 x275004 x282000 x282001 x282002 x282003)) else (chancellaw5_Entity.j3 k x5 false x275000 x275001 x275002 x275003 x275004 x282000 x282001 x282002 x282003)
def chancellaw5_Entity.j3 : Nat → Int → Bool → Int → Int → List Int → List Int → List (S25) → ByteArray → ByteArray → List (S28) → List (S49) → Option (ByteArray × ByteArray × (List (S28)) × (List (S49)))
 | 0, _, _, _, _, _, _, _, _, _, _, _ => none
 | k + 1, x5, x68, x275000, x275001, x275002, x275003, x275004, x282000, x282001, x282002, x282003 => if x68 = true then (if 0 ≤ x5 then (if x5 < (x275004.length : Int) then ((chancellaw3_Good.f k ((rd_T25 x275004 x5).f0) ((rd_T25 x275004 x5).f1) ((rd_T25 x275004 x5).f2) ((rd_T25 x275004 x5).f3)).bind fun bt293 => (if (bt293.2.2.2.2.2.2.length : Int) > 3 then (if 3 ≤ (bt293.2.2.2.2.2.2.length : Int) then (if x5 < (x275003.length : Int) then ((chancellaw5_name.f (rd x275003 x5)).bind fun t307 => (if x282003.length < 1256584717458 then (chancellaw5_Entity.l1 k (wrap64 (x5 + 1)) x275000 x275001 x275002 x275003 x275004 x282000 x282001 x282002 (x282003 ++ [(⟨t307, (⟨bt293.1, bt293.2.1, bt293.2.2.1, bt293.2.2.2.1, (⟨bt293.2.2.2.2.1, bt293.2.2.2.2.2.1⟩ : S28), (bt293.2.2.2.2.2.2.take (3 : Int).toNat)⟩ : S31)⟩ : S49)])) else (none))) else (none)) else (none)) else (if x5 < (x275003.length : Int) then ((chancellaw5_name.f (rd x275003 x5)).bind fun t312 => (if x282003.length < 1256584717458 then (chancellaw5_Entity.l1 k (wrap64 (x5 + 1)) x275000 x275001 x275002 x275003 x275004 x282000 x282001 x282002 (x282003 ++ [(⟨t312, (⟨bt293.1, bt293.2.1, bt293.2.2.1, bt293.2.2.2.1, (⟨bt293.2.2.2.2.1, bt293.2.2.2.2.2.1⟩ : S28), bt293.2.2.2.2.2.2⟩ : S31)⟩ : S49)])) else (none))) else (none)))) else (none)) else (none)) else (some (x282000, x282001, x282002, x282003))
end
def chancellaw5_Entity.f (k : Nat) (a0_0 : Int) (a0_1 : Int) (l0_2 : List Int) (l0_3 : List Int) (l0_4 : List (S25)) : Option (ByteArray × ByteArray × (List (S28)) × (List (S49))) := (chancellaw5_kind.f a0_0).bind fun t276 => ((chancellaw5_within.f a0_1 5).bind fun t277 => (chancellaw5_Entity.l0 k 0 a0_0 a0_1 l0_2 l0_3 l0_4 t276 (strOfNums (([(wrap64 (97 + t277)) % 256] : List Int))) ([] : List (S28))))
theorem chancellaw5_Entity.mono_l : ∀ k, (∀ y0 y1 y2 y3 y4 y5 y6 y7 y8, LeO (chancellaw5_Entity.l0 k y0 y1 y2 y3 y4 y5 y6 y7 y8) (chancellaw5_Entity.l0 (k + 1) y0 y1 y2 y3 y4 y5 y6 y7 y8)) ∧ (∀ y0 y1 y2 y3 y4 y5 y6 y7 y8 y9, LeO (chancellaw5_Entity.j1 k y0 y1 y2 y3 y4 y5 y6 y7 y8 y9) (chancellaw5_Entity.j1 (k + 1) y0 y1 y2 y3 y4 y5 y6 y7 y8 y9)) ∧ (∀ y0 y1 y2 y3 y4 y5 y6 y7 y8 y9, LeO (chancellaw5_Entity.l1 k y0 y1 y2 y3 y4 y5 y6 y7 y8 y9) (chancellaw5_Entity.l1 (k + 1) y0 y1 y2 y3 y4 y5 y6 y7 y8 y9)) ∧ (∀ y0 y1 y2 y3 y4 y5 y6 y7 y8 y9 y10, LeO (chancellaw5_Entity.j3 k y0 y1 y2 y3 y4 y5 y6 y7 y8 y9 y10) (chancellaw5_Entity.j3 (k + 1) y0 y1 y2 y3 y4 y5 y6 y7 y8 y9 y10))
 | 0 => ⟨fun _ _ _ _ _ _ _ _ _ r h => by simp [chancellaw5_Entity.l0] at h, fun _ _ _ _ _ _ _ _ _ _ r h => by simp [chancellaw5_Entity.j1] at h, fun _ _ _ _ _ _ _ _ _ _ r h => by simp [chancellaw5_Entity.l1] at h, fun _ _ _ _ _ _ _ _ _ _ _ r h => by simp [chancellaw5_Entity.j3] at h⟩
 | k + 1 => by
  obtain ⟨ih0, ih1, ih2, ih3⟩ := chancellaw5_Entity.mono_l k
  refine ⟨?_, ?_, ?_, ?_⟩
  ·
   intro y0 y1 y2 y3 y4 y5 y6 y7 y8
   unfold chancellaw5_Entity.l0
   repeat' first
   | (with_reducible exact ih0 _ _ _ _ _ _ _ _ _)
   | (with_reducible exact ih1 _ _ _ _ _ _ _ _ _ _)
   | (with_reducible exact ih2 _ _ _ _ _ _ _ _ _ _)
   | (with_reducible exact ih3 _ _ _ _ _ _ _ _ _ _ _)
   | (with_reducible exact chancellaw3_Good.mono _ _ _ _ _)
   | (with_reducible exact LeO.refl _)
   | (with_reducible exact LeO.none _)
   | (with_reducible refine LeO.ite ?_ ?_)
   | (with_reducible refine LeO.bind ?_ (fun _ => ?_))
   | exact ih0 _ _ _ _ _ _ _ _ _
   | exact ih1 _ _ _ _ _ _ _ _ _ _
   | exact ih2 _ _ _ _ _ _ _ _ _ _
   | exact ih3 _ _ _ _ _ _ _ _ _ _ _
   | exact chancellaw3_Good.mono _ _ _ _ _
   | exact LeO.none _
   | refine LeO.ite ?_ ?_
   | refine LeO.bind ?_ (fun _ => ?_)
  ·
   intro y0 y1 y2 y3 y4 y5 y6 y7 y8 y9
   unfold chancellaw5_Entity.j1
   repeat' first
   | (with_reducible exact ih0 _ _ _ _ _ _ _ _ _)
   | (with_reducible exact ih1 _ _ _ _ _ _ _ _ _ _)
   | (with_reducible exact ih2 _ _ _ _ _ _ _ _ _ _)
   | (with_reducible exact ih3 _ _ _ _ _ _ _ _ _ _ _)
   | (with_reducible exact chancellaw3_Good.mono _ _ _ _ _)
   | (with_reducible exact LeO.refl _)
   | (with_reducible exact LeO.none _)
   | (with_reducible refine LeO.ite ?_ ?_)
   | (with_reducible refine LeO.bind ?_ (fun _ => ?_))
   | exact ih0 _ _ _ _ _ _ _ _ _
   | exact ih1 _ _ _ _ _ _ _ _ _ _
   | exact ih2 _ _ _ _ _ _ _ _ _ _
   | exact ih3 _ _ _ _ _ _ _ _ _ _ _
   | exact chancellaw3_Good.mono _ _ _ _ _
   | exact LeO.none _
   | refine LeO.ite ?_ ?_
   | refine LeO.bind ?_ (fun _ => ?_)
  ·
   intro y0 y1 y2 y3 y4 y5 y6 y7 y8 y9
   unfold chancellaw5_Entity.l1
   repeat' first
   | (with_reducible exact ih0 _ _ _ _ _ _ _ _ _)
   | (with_reducible exact ih1 _ _ _ _ _ _ _ _ _ _)
   | (with_reducible exact ih2 _ _ _ _ _ _ _ _ _ _)
   | (with_reducible exact ih3 _ _ _ _ _ _ _ _ _ _ _)
   | (with_reducible exact chancellaw3_Good.mono _ _ _ _ _)
   | (with_reducible exact LeO.refl _)
   | (with_reducible exact LeO.none _)
   | (with_reducible refine LeO.ite ?_ ?_)
   | (with_reducible refine LeO.bind ?_ (fun _ => ?_))
   | exact ih0 _ _ _ _ _ _ _ _ _
   | exact ih1 _ _ _ _ _ _ _ _ _ _
   | exact ih2 _ _ _ _ _ _ _ _ _ _
   | exact ih3 _ _ _ _ _ _ _ _ _ _ _
   | exact chancellaw3_Good.mono _ _ _ _ _
   | exact LeO.none _
   | refine LeO.ite ?_ ?_
   | refine LeO.bind ?_ (fun _ => ?_)
  ·
   intro y0 y1 y2 y3 y4 y5 y6 y7 y8 y9 y10
   unfold chancellaw5_Entity.j3
   repeat' first
   | (with_reducible exact ih0 _ _ _ _ _ _ _ _ _)
   | (with_reducible exact ih1 _ _ _ _ _ _ _ _ _ _)
   | (with_reducible exact ih2 _ _ _ _ _ _ _ _ _ _)
   | (with_reducible exact ih3 _ _ _ _ _ _ _ _ _ _ _)
   | (with_reducible exact chancellaw3_Good.mono _ _ _ _ _)
   | (with_reducible exact LeO.refl _)
   | (with_reducible exact LeO.none _)
   | (with_reducible refine LeO.ite ?_ ?_)
   | (with_reducible refine LeO.bind ?_ (fun _ => ?_))
   | exact ih0 _ _ _ _ _ _ _ _ _
   | exact ih1 _ _ _ _ _ _ _ _ _ _
   | exact ih2 _ _ _ _ _ _ _ _ _ _
   | exact ih3 _ _ _ _ _ _ _ _ _ _ _
   | exact chancellaw3_Good.mono _ _ _ _ _
   | exact LeO.none _
   | refine LeO.ite ?_ ?_
   | refine LeO.bind ?_ (fun _ => ?_)
theorem chancellaw5_Entity.mono : ∀ a0 a1 a2 a3 a4 k, LeO (chancellaw5_Entity.f k a0 a1 a2 a3 a4) (chancellaw5_Entity.f (k + 1) a0 a1 a2 a3 a4) := by
 intro a0 a1 a2 a3 a4 k
 obtain ⟨ih0, ih1, ih2, ih3⟩ := chancellaw5_Entity.mono_l k
 unfold chancellaw5_Entity.f
 repeat' first
   | (with_reducible exact ih0 _ _ _ _ _ _ _ _ _)
   | (with_reducible exact ih1 _ _ _ _ _ _ _ _ _ _)
   | (with_reducible exact ih2 _ _ _ _ _ _ _ _ _ _)
   | (with_reducible exact ih3 _ _ _ _ _ _ _ _ _ _ _)
   | (with_reducible exact chancellaw3_Good.mono _ _ _ _ _)
   | (with_reducible exact LeO.refl _)
   | (with_reducible exact LeO.none _)
   | (with_reducible refine LeO.ite ?_ ?_)
   | (with_reducible refine LeO.bind ?_ (fun _ => ?_))
   | exact ih0 _ _ _ _ _ _ _ _ _
   | exact ih1 _ _ _ _ _ _ _ _ _ _
   | exact ih2 _ _ _ _ _ _ _ _ _ _
   | exact ih3 _ _ _ _ _ _ _ _ _ _ _
   | exact chancellaw3_Good.mono _ _ _ _ _
   | exact LeO.none _
   | refine LeO.ite ?_ ?_
   | refine LeO.bind ?_ (fun _ => ?_)
def chancellaw5_Entity.T1 : Bool × List (List Nat × List Nat) := (true, [([], []), ([0], [0]), ([1], [1]), ([], []), ([3], [3]), ([4, 2], [4]), ([5], [5]), ([6], [6]), ([7], [7]), ([8], [8]), ([2, 9], [2, 9]), ([10], [10]), ([], []), ([12, 11, 5, 0, 1, 2, 3, 4, 5, 6, 7, 8, 9, 10, 11, 12], [11, 12])])
def chancellaw5_Entity.B1 : List Nat := [0, 1, 3, 0, 8, 31, 63, 127, 255, 511, 1023, 2047, 0, 8191]
theorem chancellaw5_Entity.tab1 : rtab .any (opsOf Try.f24 1) = chancellaw5_Entity.T1 := by kernel_rfl
theorem chancellaw5_Entity.bits1 : waitsOk chancellaw5_Entity.T1.2 chancellaw5_Entity.B1 = true := by kernel_rfl
def chancellaw5_Entity.T5 : Bool × List (List Nat × List Nat) := (true, [([], []), ([0], [0]), ([], []), ([2], [2]), ([], []), ([3, 4], [3, 4]), ([5], [5]), ([6], [6]), ([], []), ([8], [8]), ([], []), ([9, 10], [9, 10]), ([11], [11]), ([12], [12]), ([13, 7], [13]), ([14], [14]), ([15], [15]), ([16], [16]), ([17], [17]), ([7, 18], [7, 18]), ([19], [19]), ([1, 20, 14], [1, 20]), ([0, 1, 2, 3, 4, 5, 6, 7, 8, 9, 10, 11, 12, 13, 14, 15, 16, 17, 18, 19, 20, 21], []), ([22, 21, 21, 0, 1, 2, 3, 4, 5, 6, 7, 8, 9, 10, 11, 12, 13, 14, 15, 16, 17, 18, 19, 20, 21], [21, 22])])
def chancellaw5_Entity.B5 : List Nat := [0, 1, 0, 4, 0, 28, 60, 124, 0, 256, 0, 1792, 3840, 7936, 16380, 32764, 65532, 131068, 262140, 524284, 1048572, 2097151, 4194303, 8388607]
theorem chancellaw5_Entity.tab5 : rtab .any (opsOf Try.f24 5) = chancellaw5_Entity.T5 := by kernel_rfl
theorem chancellaw5_Entity.bits5 : waitsOk chancellaw5_Entity.T5.2 chancellaw5_Entity.B5 = true := by kernel_rfl
def chancellaw5_Entity.T12 : Bool × List (List Nat × List Nat) := (true, [([], []), ([0], [0]), ([], []), ([2], [2]), ([], []), ([3, 4], [3, 4]), ([5], [5]), ([6], [6]), ([], []), ([7, 8], [7, 8]), ([9], [9]), ([1, 10, 7], [1, 10]), ([0, 1, 2, 3, 4, 5, 6, 7, 8, 9, 10, 11], []), ([12, 11, 11, 0, 1, 2, 3, 4, 5, 6, 7, 8, 9, 10, 11], [11, 12])])
def chancellaw5_Entity.B12 : List Nat := [0, 1, 0, 4, 0, 28, 60, 124, 0, 508, 1020, 2047, 4095, 8191]
theorem chancellaw5_Entity.tab12 : rtab .any (opsOf Try.f24 12) = chancellaw5_Entity.T12 := by kernel_rfl
theorem chancellaw5_Entity.bits12 : waitsOk chancellaw5_Entity.T12.2 chancellaw5_Entity.B12 = true := by kernel_rfl
set_option maxHeartbeats 8000000 in
set_option maxRecDepth 100000 in
theorem chancellaw5_Entity.calls (k : Nat) (a0_0 : Int) (a0_1 : Int) (A0_2 : Option Addr) (c0_2 : Nat) (l0_2 : List Int) (A0_3 : Option Addr) (c0_3 : Nat) (l0_3 : List Int) (A0_4 : Option Addr) (c0_4 : Nat) (l0_4 : List (S25)) (r1 : ByteArray) (r2 : ByteArray) (r3 : List (S28)) (r4 : List (S49)) (w : World) (hr0_2 : Kd.C (Kd.int .i64) w A0_2 l0_2.length l0_2) (hc0_2 : l0_2.length ≤ c0_2) (hr0_3 : Kd.C (Kd.int .i64) w A0_3 l0_3.length l0_3) (hc0_3 : l0_3.length ≤ c0_3) (hr0_4 : Kd.C k25 w A0_4 l0_4.length l0_4) (hc0_4 : l0_4.length ≤ c0_4) (h : chancellaw5_Entity.f k a0_0 a0_1 l0_2 l0_3 l0_4 = some (r1, r2, r3, r4)) :
  Calls Try.prog 24 #[.agg #[.int .i64 a0_0, .int .i64 a0_1, .slice A0_2 l0_2.length c0_2, .slice A0_3 l0_3.length c0_3, .slice A0_4 l0_4.length c0_4]] w fun e w' => ∃ v2_ v3_ : Value, e = .returned (.agg #[.string r1, .string r2, v2_, v3_]) ∧ Kd.R k28 28 w' w.heap.size (fun k_ => (w.heap.size ≤ k_)) v2_ r3 ∧ Kd.N k49 49 w' w.heap.size (fun k_ => (w.heap.size ≤ k_) ∧ some k_ ≠ (v2_ : Value).ownBlock) v3_ r4 ∧ Below w.heap.size w w' := by
 have hu42 := Try.underlying42
 have hu46 := Try.underlying46
 have hu28 := Try.underlying28
 have hu25 := Try.underlying25
 have hu31 := Try.underlying31
 have hu49 := Try.underlying49
 have HR0_2 := aZ_ hr0_2
 have HC0_2 := aZ_ hc0_2
 clear hr0_2 hc0_2
 have HR0_3 := aZ_ hr0_3
 have HC0_3 := aZ_ hc0_3
 clear hr0_3 hc0_3
 have HR0_4 := aZ_ hr0_4
 have HC0_4 := aZ_ hc0_4
 clear hr0_4 hc0_4
 have HB := aZ_ (Below.refl w.heap.size w)
 have H : ((chancellaw5_kind.f a0_0).bind fun t276 => ((chancellaw5_within.f a0_1 5).bind fun t277 => (chancellaw5_Entity.l0 k 0 a0_0 a0_1 l0_2 l0_3 l0_4 t276 (strOfNums (([(wrap64 (97 + t277)) % 256] : List Int))) ([] : List (S28))))) = some (r1, r2, r3, r4) := h
 clear h
 replace H := Option.bind_eq_some_iff.mp H
 obtain ⟨t276, A20, H⟩ := H
 replace H : ((chancellaw5_within.f a0_1 5).bind fun t277 => (chancellaw5_Entity.l0 k 0 a0_0 a0_1 l0_2 l0_3 l0_4 t276 (strOfNums (([(wrap64 (97 + t277)) % 256] : List Int))) ([] : List (S28)))) = some (r1, r2, r3, r4) := H
 have A2 := aZ_ A20
 clear A20
 replace H := Option.bind_eq_some_iff.mp H
 obtain ⟨t277, A30, H⟩ := H
 replace H : (chancellaw5_Entity.l0 k 0 a0_0 a0_1 l0_2 l0_3 l0_4 t276 (strOfNums (([(wrap64 (97 + t277)) % 256] : List Int))) ([] : List (S28))) = some (r1, r2, r3, r4) := H
 have A3 := aZ_ A30
 clear A30
 obtain ⟨y278, hy278⟩ : ∃ y_ : List Int, y_ = (([(wrap64 (97 + t277)) % 256] : List Int)) := ⟨_, rfl⟩
 replace H : (chancellaw5_Entity.l0 k 0 a0_0 a0_1 l0_2 l0_3 l0_4 t276 (strOfNums y278) ([] : List (S28))) = some (r1, r2, r3, r4) := by first | (rw [hy278]; with_reducible exact H) | (have H2_ := (Option.bind_some _ _).symm.trans H; rw [hy278]; with_reducible exact H2_) | (have H2_ := (Option.bind_some _ _).symm.trans H; with_reducible exact H2_) | with_reducible exact H | (rw [hy278]; exact H) | exact H
 have Ny278 := aZ_ hy278
 clear hy278
 have H' := aZ_ H
 clear H
 go_enter Try.func24, Try.ntmps24
 try go_wp2_with (first | ((with_reducible refine gate_dst (N := 1) rfl ?_); (try (refine gate_guard (by rfl) ?_; dsimp only)); refine bxE 1 #[.int .i64 a0_0, .int .i64 a0_1, .slice A0_2 l0_2.length c0_2, .slice A0_3 l0_3.length c0_3, .slice A0_4 l0_4.length c0_4] 42 ?_; intro gb274 hg w4 hbox hb; have BK274 := aZ_ (hbox); have GW274 := aZ_ ((by rw [hg]; exact (below_size (bl HB)) : w.heap.size ≤ gb274)); have GE274 := aZ_ ((by rw [hg]; exact (below_size (bl HB)) : w.heap.size ≤ gb274)); replace HB := aZ_ (below_step (bl HB) hb); clear hb hbox hg) | ((with_reducible refine gate_dst (N := 2) rfl ?_); (try (refine gate_guard (by rfl) ?_; dsimp only)); refine bxE 2 #[.string (⟨#[]⟩ : ByteArray), .string (⟨#[]⟩ : ByteArray), .slice none 0 0, .slice none 0 0] 46 ?_; intro gb275 hg w5 hbox hb; have BK275 := aZ_ (hbox); have GW275 := aZ_ ((by rw [hg]; exact (below_size (bl1 HB GE274)) : w.heap.size ≤ gb275)); have GE275 := aZ_ ((by rw [hg]; exact (below_size (bl1 HB GE274)) : w.heap.size ≤ gb275)); replace HB := aZ_ (below_step (bl1 HB GE274) hb); have NB274_275 := aZ_ ((by rw [hg]; exact Nat.ne_of_lt (blk_lt (g := gb274) (o := .cells #[.int .i64 a0_0, .int .i64 a0_1, .slice A0_2 l0_2.length c0_2, .slice A0_3 l0_3.length c0_3, .slice A0_4 l0_4.length c0_4] 42 (0, 0)) (bk BK274)) : gb274 ≠ gb275)); have NB275_274 := aZ_ ((by rw [hg]; exact Nat.ne_of_gt (blk_lt (g := gb274) (o := .cells #[.int .i64 a0_0, .int .i64 a0_1, .slice A0_2 l0_2.length c0_2, .slice A0_3 l0_3.length c0_3, .slice A0_4 l0_4.length c0_4] 42 (0, 0)) (bk BK274)) : gb275 ≠ gb274)); replace BK274 := aZ_ (blk_below (g := gb274) (o := .cells #[.int .i64 a0_0, .int .i64 a0_1, .slice A0_2 l0_2.length c0_2, .slice A0_3 l0_3.length c0_3, .slice A0_4 l0_4.length c0_4] 42 (0, 0)) (bk BK274) hb); clear hb hbox hg))
 replace BK274 := aZ_ (blk_drew BK274.out)
 replace BK275 := aZ_ (blk_drew BK275.out)
 replace HB := aZ_ (below_drew1 HB.out)
 refine start_ (n := 14) (S := fun w' => w'.cell? ⟨gb274, 0, none⟩ = some (.int .i64 a0_0) ∧ w'.cell? ⟨gb274, 1, none⟩ = some (.int .i64 a0_1) ∧ w'.cell? ⟨gb274, 2, none⟩ = some (.slice A0_2 l0_2.length c0_2) ∧ w'.cell? ⟨gb274, 3, none⟩ = some (.slice A0_3 l0_3.length c0_3) ∧ w'.cell? ⟨gb274, 4, none⟩ = some (.slice A0_4 l0_4.length c0_4)) (ds := []) #[false, false, false, false, false, false, false, false, false, false, false, false, false, false] (by kernel_rfl) rfl rfl ⟨(blk_cell BK274.out 0).trans rfl, (blk_cell BK274.out 1).trans rfl, (blk_cell BK274.out 2).trans rfl, (blk_cell BK274.out 3).trans rfl, (blk_cell BK274.out 4).trans rfl⟩ (fun hHeld => ?_); refine with_tabW chancellaw5_Entity.tab1 chancellaw5_Entity.bits1 (fun HT_ HW_ => ?_)
 generalize w5.drew = w6 at BK274 BK275 HB hHeld ⊢
 refine pS_ 0 7 (fa 14 1) HT_ ?_
 refine pS_ 3 10 (fa 14 9) HT_ ?_
 refine tS_ 1 8 (fa 14 11) HT_ HW_ hHeld ?_
 refine tS_ 4 11 (fa 14 27) HT_ HW_ hHeld ?_
 refine join_ (σ := Value × Nat) 1 #[true, true, true, true, true, true, true, true, true, true, true, true, true, false] (fun s_ => [(9, .string t276), (12, .int .i64 t277), (15, s_.1), (16, .string (strOfNums y278)), (3, .pointer (some ⟨s_.2, 0, none⟩)), (13, .int .i64 (wrap64 (97 + t277))), (14, .int .u8 ((wrap64 (97 + t277)) % 256)), (17, .agg #[.string t276, .string (strOfNums y278)]), (18, .agg #[.string t276, .string (strOfNums y278), .slice none 0 0, .slice none 0 0])]) (fun s_ w' => (w'.cell? ⟨gb274, 0, none⟩ = some (.int .i64 a0_0) ∧ w'.cell? ⟨gb274, 1, none⟩ = some (.int .i64 a0_1) ∧ w'.cell? ⟨gb274, 2, none⟩ = some (.slice A0_2 l0_2.length c0_2) ∧ w'.cell? ⟨gb274, 3, none⟩ = some (.slice A0_3 l0_3.length c0_3) ∧ w'.cell? ⟨gb274, 4, none⟩ = some (.slice A0_4 l0_4.length c0_4)) ∧ (Kd.R (Kd.int .u8) 5 w' w.heap.size (fun k_ => (w.heap.size ≤ k_)) s_.1 y278) ∧ (w'.heap[gb274]? = some (.cells #[.int .i64 a0_0, .int .i64 a0_1, .slice A0_2 l0_2.length c0_2, .slice A0_3 l0_3.length c0_3, .slice A0_4 l0_4.length c0_4] 42 (0, 0))) ∧ (w'.heap[gb275]? = some (.cells #[.string (⟨#[]⟩ : ByteArray), .string (⟨#[]⟩ : ByteArray), .slice none 0 0, .slice none 0 0] 46 (0, 0))) ∧ (w'.heap[s_.2]? = some (.cells #[.string (⟨#[]⟩ : ByteArray), .string (⟨#[]⟩ : ByteArray), .slice none 0 0, .slice none 0 0] 46 (0, 0))) ∧ (w.heap.size ≤ s_.2) ∧ (w.heap.size ≤ s_.2) ∧ (gb274 ≠ s_.2) ∧ (s_.2 ≠ gb274) ∧ (gb275 ≠ s_.2) ∧ (s_.2 ≠ gb275) ∧ (Below w.heap.size w w')) ?_ ?_
 rotate_left
 ·
  intro hJ2_5_8_9_12
  refine join_ (σ := Value) 2 #[true, true, true, true, true, true, true, true, true, true, true, true, false, false] (fun s_ => [(9, .string t276), (12, .int .i64 t277), (15, s_), (16, .string (strOfNums y278)), (13, .int .i64 (wrap64 (97 + t277))), (14, .int .u8 ((wrap64 (97 + t277)) % 256)), (17, .agg #[.string t276, .string (strOfNums y278)]), (18, .agg #[.string t276, .string (strOfNums y278), .slice none 0 0, .slice none 0 0])]) (fun s_ w' => (w'.cell? ⟨gb274, 0, none⟩ = some (.int .i64 a0_0) ∧ w'.cell? ⟨gb274, 1, none⟩ = some (.int .i64 a0_1) ∧ w'.cell? ⟨gb274, 2, none⟩ = some (.slice A0_2 l0_2.length c0_2) ∧ w'.cell? ⟨gb274, 3, none⟩ = some (.slice A0_3 l0_3.length c0_3) ∧ w'.cell? ⟨gb274, 4, none⟩ = some (.slice A0_4 l0_4.length c0_4)) ∧ (Kd.R (Kd.int .u8) 5 w' w.heap.size (fun k_ => (w.heap.size ≤ k_)) s_ y278) ∧ (w'.heap[gb274]? = some (.cells #[.int .i64 a0_0, .int .i64 a0_1, .slice A0_2 l0_2.length c0_2, .slice A0_3 l0_3.length c0_3, .slice A0_4 l0_4.length c0_4] 42 (0, 0))) ∧ (w'.heap[gb275]? = some (.cells #[.string (⟨#[]⟩ : ByteArray), .string (⟨#[]⟩ : ByteArray), .slice none 0 0, .slice none 0 0] 46 (0, 0))) ∧ (Below w.heap.size w w')) ?_ ?_
  rotate_left
  ·
   intro hJ2_5_8_9
   refine join_ (σ := Value × Nat) 4 #[true, true, true, true, true, true, true, true, true, false, false, false, true, false] (fun s_ => [(9, .string t276), (12, .int .i64 t277), (15, s_.1), (3, .pointer (some ⟨s_.2, 0, none⟩)), (13, .int .i64 (wrap64 (97 + t277))), (14, .int .u8 ((wrap64 (97 + t277)) % 256))]) (fun s_ w' => (w'.cell? ⟨gb274, 0, none⟩ = some (.int .i64 a0_0) ∧ w'.cell? ⟨gb274, 1, none⟩ = some (.int .i64 a0_1) ∧ w'.cell? ⟨gb274, 2, none⟩ = some (.slice A0_2 l0_2.length c0_2) ∧ w'.cell? ⟨gb274, 3, none⟩ = some (.slice A0_3 l0_3.length c0_3) ∧ w'.cell? ⟨gb274, 4, none⟩ = some (.slice A0_4 l0_4.length c0_4)) ∧ (Kd.R (Kd.int .u8) 5 w' w.heap.size (fun k_ => (w.heap.size ≤ k_)) s_.1 y278) ∧ (w'.heap[gb274]? = some (.cells #[.int .i64 a0_0, .int .i64 a0_1, .slice A0_2 l0_2.length c0_2, .slice A0_3 l0_3.length c0_3, .slice A0_4 l0_4.length c0_4] 42 (0, 0))) ∧ (w'.heap[gb275]? = some (.cells #[.string (⟨#[]⟩ : ByteArray), .string (⟨#[]⟩ : ByteArray), .slice none 0 0, .slice none 0 0] 46 (0, 0))) ∧ (w'.heap[s_.2]? = some (.cells #[.string (⟨#[]⟩ : ByteArray), .string (⟨#[]⟩ : ByteArray), .slice none 0 0, .slice none 0 0] 46 (0, 0))) ∧ (w.heap.size ≤ s_.2) ∧ (w.heap.size ≤ s_.2) ∧ (gb274 ≠ s_.2) ∧ (s_.2 ≠ gb274) ∧ (gb275 ≠ s_.2) ∧ (s_.2 ≠ gb275) ∧ (Below w.heap.size w w')) ?_ ?_
   rotate_left
   ·
    intro hJ2_5_8_12
    refine join_ (σ := Value) 5 #[true, true, true, true, true, true, true, true, true, false, false, false, false, false] (fun s_ => [(9, .string t276), (12, .int .i64 t277), (15, s_), (13, .int .i64 (wrap64 (97 + t277))), (14, .int .u8 ((wrap64 (97 + t277)) % 256))]) (fun s_ w' => (w'.cell? ⟨gb274, 0, none⟩ = some (.int .i64 a0_0) ∧ w'.cell? ⟨gb274, 1, none⟩ = some (.int .i64 a0_1) ∧ w'.cell? ⟨gb274, 2, none⟩ = some (.slice A0_2 l0_2.length c0_2) ∧ w'.cell? ⟨gb274, 3, none⟩ = some (.slice A0_3 l0_3.length c0_3) ∧ w'.cell? ⟨gb274, 4, none⟩ = some (.slice A0_4 l0_4.length c0_4)) ∧ (Kd.R (Kd.int .u8) 5 w' w.heap.size (fun k_ => (w.heap.size ≤ k_)) s_ y278) ∧ (w'.heap[gb274]? = some (.cells #[.int .i64 a0_0, .int .i64 a0_1, .slice A0_2 l0_2.length c0_2, .slice A0_3 l0_3.length c0_3, .slice A0_4 l0_4.length c0_4] 42 (0, 0))) ∧ (w'.heap[gb275]? = some (.cells #[.string (⟨#[]⟩ : ByteArray), .string (⟨#[]⟩ : ByteArray), .slice none 0 0, .slice none 0 0] 46 (0, 0))) ∧ (Below w.heap.size w w')) ?_ ?_
    rotate_left
    ·
     intro hJ2_5_8
     refine join_ (σ := Nat) 5 #[true, true, true, true, true, true, true, true, false, false, false, false, true, false] (fun s_ => [(9, .string t276), (12, .int .i64 t277), (3, .pointer (some ⟨s_, 0, none⟩)), (13, .int .i64 (wrap64 (97 + t277))), (14, .int .u8 ((wrap64 (97 + t277)) % 256))]) (fun s_ w' => (w'.cell? ⟨gb274, 0, none⟩ = some (.int .i64 a0_0) ∧ w'.cell? ⟨gb274, 1, none⟩ = some (.int .i64 a0_1) ∧ w'.cell? ⟨gb274, 2, none⟩ = some (.slice A0_2 l0_2.length c0_2) ∧ w'.cell? ⟨gb274, 3, none⟩ = some (.slice A0_3 l0_3.length c0_3) ∧ w'.cell? ⟨gb274, 4, none⟩ = some (.slice A0_4 l0_4.length c0_4)) ∧ (w'.heap[gb274]? = some (.cells #[.int .i64 a0_0, .int .i64 a0_1, .slice A0_2 l0_2.length c0_2, .slice A0_3 l0_3.length c0_3, .slice A0_4 l0_4.length c0_4] 42 (0, 0))) ∧ (w'.heap[gb275]? = some (.cells #[.string (⟨#[]⟩ : ByteArray), .string (⟨#[]⟩ : ByteArray), .slice none 0 0, .slice none 0 0] 46 (0, 0))) ∧ (w'.heap[s_]? = some (.cells #[.string (⟨#[]⟩ : ByteArray), .string (⟨#[]⟩ : ByteArray), .slice none 0 0, .slice none 0 0] 46 (0, 0))) ∧ (w.heap.size ≤ s_) ∧ (w.heap.size ≤ s_) ∧ (gb274 ≠ s_) ∧ (s_ ≠ gb274) ∧ (gb275 ≠ s_) ∧ (s_ ≠ gb275) ∧ (Below w.heap.size w w')) ?_ ?_
     rotate_left
     ·
      intro hJ2_5_12
      refine join_ (σ := Unit) 6 #[true, true, true, true, true, true, true, true, false, false, false, false, false, false] (fun s_ => [(9, .string t276), (12, .int .i64 t277), (13, .int .i64 (wrap64 (97 + t277))), (14, .int .u8 ((wrap64 (97 + t277)) % 256))]) (fun s_ w' => (w'.cell? ⟨gb274, 0, none⟩ = some (.int .i64 a0_0) ∧ w'.cell? ⟨gb274, 1, none⟩ = some (.int .i64 a0_1) ∧ w'.cell? ⟨gb274, 2, none⟩ = some (.slice A0_2 l0_2.length c0_2) ∧ w'.cell? ⟨gb274, 3, none⟩ = some (.slice A0_3 l0_3.length c0_3) ∧ w'.cell? ⟨gb274, 4, none⟩ = some (.slice A0_4 l0_4.length c0_4)) ∧ (w'.heap[gb274]? = some (.cells #[.int .i64 a0_0, .int .i64 a0_1, .slice A0_2 l0_2.length c0_2, .slice A0_3 l0_3.length c0_3, .slice A0_4 l0_4.length c0_4] 42 (0, 0))) ∧ (w'.heap[gb275]? = some (.cells #[.string (⟨#[]⟩ : ByteArray), .string (⟨#[]⟩ : ByteArray), .slice none 0 0, .slice none 0 0] 46 (0, 0))) ∧ (Below w.heap.size w w')) ?_ ?_
      rotate_left
      ·
       intro hJ2_5
       refine join_ (σ := Nat) 8 #[true, true, true, true, true, false, false, false, false, false, false, false, true, false] (fun s_ => [(9, .string t276), (3, .pointer (some ⟨s_, 0, none⟩))]) (fun s_ w' => (w'.cell? ⟨gb274, 0, none⟩ = some (.int .i64 a0_0) ∧ w'.cell? ⟨gb274, 1, none⟩ = some (.int .i64 a0_1) ∧ w'.cell? ⟨gb274, 2, none⟩ = some (.slice A0_2 l0_2.length c0_2) ∧ w'.cell? ⟨gb274, 3, none⟩ = some (.slice A0_3 l0_3.length c0_3) ∧ w'.cell? ⟨gb274, 4, none⟩ = some (.slice A0_4 l0_4.length c0_4)) ∧ (w'.heap[gb274]? = some (.cells #[.int .i64 a0_0, .int .i64 a0_1, .slice A0_2 l0_2.length c0_2, .slice A0_3 l0_3.length c0_3, .slice A0_4 l0_4.length c0_4] 42 (0, 0))) ∧ (w'.heap[gb275]? = some (.cells #[.string (⟨#[]⟩ : ByteArray), .string (⟨#[]⟩ : ByteArray), .slice none 0 0, .slice none 0 0] 46 (0, 0))) ∧ (w'.heap[s_]? = some (.cells #[.string (⟨#[]⟩ : ByteArray), .string (⟨#[]⟩ : ByteArray), .slice none 0 0, .slice none 0 0] 46 (0, 0))) ∧ (w.heap.size ≤ s_) ∧ (w.heap.size ≤ s_) ∧ (gb274 ≠ s_) ∧ (s_ ≠ gb274) ∧ (gb275 ≠ s_) ∧ (s_ ≠ gb275) ∧ (Below w.heap.size w w')) ?_ ?_
       rotate_left
       ·
        intro hJ2_12
        refine join_ (σ := Unit) 9 #[true, true, true, true, true, false, false, false, false, false, false, false, false, false] (fun s_ => [(9, .string t276)]) (fun s_ w' => (w'.cell? ⟨gb274, 0, none⟩ = some (.int .i64 a0_0) ∧ w'.cell? ⟨gb274, 1, none⟩ = some (.int .i64 a0_1) ∧ w'.cell? ⟨gb274, 2, none⟩ = some (.slice A0_2 l0_2.length c0_2) ∧ w'.cell? ⟨gb274, 3, none⟩ = some (.slice A0_3 l0_3.length c0_3) ∧ w'.cell? ⟨gb274, 4, none⟩ = some (.slice A0_4 l0_4.length c0_4)) ∧ (w'.heap[gb274]? = some (.cells #[.int .i64 a0_0, .int .i64 a0_1, .slice A0_2 l0_2.length c0_2, .slice A0_3 l0_3.length c0_3, .slice A0_4 l0_4.length c0_4] 42 (0, 0))) ∧ (w'.heap[gb275]? = some (.cells #[.string (⟨#[]⟩ : ByteArray), .string (⟨#[]⟩ : ByteArray), .slice none 0 0, .slice none 0 0] 46 (0, 0))) ∧ (Below w.heap.size w w')) ?_ ?_
        rotate_left
        ·
         intro hJ2
         refine join_ (σ := Nat) 9 #[true, true, false, true, true, false, false, false, false, false, false, false, true, false] (fun s_ => [(3, .pointer (some ⟨s_, 0, none⟩))]) (fun s_ w' => (w'.cell? ⟨gb274, 0, none⟩ = some (.int .i64 a0_0) ∧ w'.cell? ⟨gb274, 1, none⟩ = some (.int .i64 a0_1) ∧ w'.cell? ⟨gb274, 2, none⟩ = some (.slice A0_2 l0_2.length c0_2) ∧ w'.cell? ⟨gb274, 3, none⟩ = some (.slice A0_3 l0_3.length c0_3) ∧ w'.cell? ⟨gb274, 4, none⟩ = some (.slice A0_4 l0_4.length c0_4)) ∧ (w'.heap[gb274]? = some (.cells #[.int .i64 a0_0, .int .i64 a0_1, .slice A0_2 l0_2.length c0_2, .slice A0_3 l0_3.length c0_3, .slice A0_4 l0_4.length c0_4] 42 (0, 0))) ∧ (w'.heap[gb275]? = some (.cells #[.string (⟨#[]⟩ : ByteArray), .string (⟨#[]⟩ : ByteArray), .slice none 0 0, .slice none 0 0] 46 (0, 0))) ∧ (w'.heap[s_]? = some (.cells #[.string (⟨#[]⟩ : ByteArray), .string (⟨#[]⟩ : ByteArray), .slice none 0 0, .slice none 0 0] 46 (0, 0))) ∧ (w.heap.size ≤ s_) ∧ (w.heap.size ≤ s_) ∧ (gb274 ≠ s_) ∧ (s_ ≠ gb274) ∧ (gb275 ≠ s_) ∧ (s_ ≠ gb275) ∧ (Below w.heap.size w w')) ?_ ?_
         rotate_left
         ·
          intro hJ12
          refine two_ (i := 2) (j := 12) (Ni := some 9) (Nj := some 3) #[true, true, true, true, true, false, false, false, false, false, false, false, false, false] #[true, true, false, true, true, false, false, false, false, false, false, false, true, false] rfl rfl rfl rfl (two_of HT_.out (by kernel_rfl)) (by decide) (by decide) (fun K hK => ?_) (fun K hK => ?_)
          ·
           skip
           refine goes_ Try.func84 (by kernel_rfl) rfl #[.int .i64 a0_0] (by rfl) rfl rfl gm_ ?_
           with_reducible refine (chancellaw5_kind.calls a0_0 t276 _ A2.out).mono ?_
           rintro e w7 ⟨rfl, hb⟩
           refine ⟨_, rfl, ?_⟩
           replace BK274 := aZ_ (blk_below (g := gb274) (o := .cells #[.int .i64 a0_0, .int .i64 a0_1, .slice A0_2 l0_2.length c0_2, .slice A0_3 l0_3.length c0_3, .slice A0_4 l0_4.length c0_4] 42 (0, 0)) (bk BK274) hb)
           replace BK275 := aZ_ (blk_below (g := gb275) (o := .cells #[.string (⟨#[]⟩ : ByteArray), .string (⟨#[]⟩ : ByteArray), .slice none 0 0, .slice none 0 0] 46 (0, 0)) (bk BK275) hb)
           replace HB := aZ_ (below_step (bl2 HB GE274 GE275) hb)
           (try clear hb)
           (try clear hb2)
           (try clear hk)
           (try clear hi)
           refine hK.out _ _ ⟨(blk_cell BK274.out 0).trans rfl, (blk_cell BK274.out 1).trans rfl, (blk_cell BK274.out 2).trans rfl, (blk_cell BK274.out 3).trans rfl, (blk_cell BK274.out 4).trans rfl⟩ (fun hHeld => ?_)
           clear hK K
           refine norm_ (a' := ?_) ?_ ?_
           rotate_left
           ·
            show Act.put _ (some 9) _ = _
            simp only [Act.put, List.setIfInBounds_toArray, List.set_cons_zero, List.set_cons_succ, i64_w, i32_w]
            rfl
           exact norm_ nm_ (hJ2 () _ ⟨hHeld, (bk BK274), (bk BK275), (bl2 HB GE274 GE275)⟩)
          ·
           skip
           refine box_step ?hg (N := 3) ?hd (cs := #[.string (⟨#[]⟩ : ByteArray), .string (⟨#[]⟩ : ByteArray), .slice none 0 0, .slice none 0 0]) (t := 46) ?hr ?_; (case hd => rfl); (case hg => rfl); (case hr => first | (go_simp; done) | (go_simp; rfl))
           intro gb281 hg w7 hbox hb
           have BK281 := aZ_ (hbox)
           have GW281 := aZ_ ((by rw [hg]; exact (below_size (bl2 HB GE274 GE275)) : w.heap.size ≤ gb281))
           have GE281 := aZ_ ((by rw [hg]; exact (below_size (bl2 HB GE274 GE275)) : w.heap.size ≤ gb281))
           replace HB := aZ_ (below_step (bl2 HB GE274 GE275) hb)
           have NB274_281 := aZ_ ((by rw [hg]; exact Nat.ne_of_lt (blk_lt (g := gb274) (o := .cells #[.int .i64 a0_0, .int .i64 a0_1, .slice A0_2 l0_2.length c0_2, .slice A0_3 l0_3.length c0_3, .slice A0_4 l0_4.length c0_4] 42 (0, 0)) (bk BK274)) : gb274 ≠ gb281))
           have NB281_274 := aZ_ ((by rw [hg]; exact Nat.ne_of_gt (blk_lt (g := gb274) (o := .cells #[.int .i64 a0_0, .int .i64 a0_1, .slice A0_2 l0_2.length c0_2, .slice A0_3 l0_3.length c0_3, .slice A0_4 l0_4.length c0_4] 42 (0, 0)) (bk BK274)) : gb281 ≠ gb274))
           replace BK274 := aZ_ (blk_below (g := gb274) (o := .cells #[.int .i64 a0_0, .int .i64 a0_1, .slice A0_2 l0_2.length c0_2, .slice A0_3 l0_3.length c0_3, .slice A0_4 l0_4.length c0_4] 42 (0, 0)) (bk BK274) hb)
           have NB275_281 := aZ_ ((by rw [hg]; exact Nat.ne_of_lt (blk_lt (g := gb275) (o := .cells #[.string (⟨#[]⟩ : ByteArray), .string (⟨#[]⟩ : ByteArray), .slice none 0 0, .slice none 0 0] 46 (0, 0)) (bk BK275)) : gb275 ≠ gb281))
           have NB281_275 := aZ_ ((by rw [hg]; exact Nat.ne_of_gt (blk_lt (g := gb275) (o := .cells #[.string (⟨#[]⟩ : ByteArray), .string (⟨#[]⟩ : ByteArray), .slice none 0 0, .slice none 0 0] 46 (0, 0)) (bk BK275)) : gb281 ≠ gb275))
           replace BK275 := aZ_ (blk_below (g := gb275) (o := .cells #[.string (⟨#[]⟩ : ByteArray), .string (⟨#[]⟩ : ByteArray), .slice none 0 0, .slice none 0 0] 46 (0, 0)) (bk BK275) hb)
           clear hb hbox hg
           refine hK.out _ _ ⟨(blk_cell BK274.out 0).trans rfl, (blk_cell BK274.out 1).trans rfl, (blk_cell BK274.out 2).trans rfl, (blk_cell BK274.out 3).trans rfl, (blk_cell BK274.out 4).trans rfl⟩ (fun hHeld => ?_)
           clear hK K
           refine norm_ (a' := ?_) ?_ ?_
           rotate_left
           ·
            show Act.put _ (some 3) _ = _
            simp only [Act.put, List.setIfInBounds_toArray, List.set_cons_zero, List.set_cons_succ, i64_w, i32_w]
            rfl
           exact norm_ nm_ (hJ12 (gb281) _ ⟨hHeld, (bk BK274), (bk BK275), (bk BK281), GW281.out, GE281.out, NB274_281.out, NB281_274.out, NB275_281.out, NB281_275.out, (bl3 HB GE274 GE275 GE281)⟩)
         ·
          skip
          rintro gb281 w8 ⟨hS_, h0_, h1_, h2_, h3_, h4_, h5_, h6_, h7_, h8_, h9_⟩
          have n0_ : Aside0 (w8.heap[gb274]? = some (.cells #[.int .i64 a0_0, .int .i64 a0_1, .slice A0_2 l0_2.length c0_2, .slice A0_3 l0_3.length c0_3, .slice A0_4 l0_4.length c0_4] 42 (0, 0))) := ⟨h0_⟩
          have n1_ : Aside0 (w8.heap[gb275]? = some (.cells #[.string (⟨#[]⟩ : ByteArray), .string (⟨#[]⟩ : ByteArray), .slice none 0 0, .slice none 0 0] 46 (0, 0))) := ⟨h1_⟩
          have n2_ : Aside0 (w8.heap[gb281]? = some (.cells #[.string (⟨#[]⟩ : ByteArray), .string (⟨#[]⟩ : ByteArray), .slice none 0 0, .slice none 0 0] 46 (0, 0))) := ⟨h2_⟩
          have n3_ : Aside0 (w.heap.size ≤ gb281) := ⟨h3_⟩
          have n4_ : Aside0 (w.heap.size ≤ gb281) := ⟨h4_⟩
          have n5_ : Aside0 (gb274 ≠ gb281) := ⟨h5_⟩
          have n6_ : Aside0 (gb281 ≠ gb274) := ⟨h6_⟩
          have n7_ : Aside0 (gb275 ≠ gb281) := ⟨h7_⟩
          have n8_ : Aside0 (gb281 ≠ gb275) := ⟨h8_⟩
          have n9_ : Aside0 (Below w.heap.size w w8) := ⟨h9_⟩
          clear BK274
          clear BK275
          clear HB
          clear h0_ h1_ h2_ h3_ h4_ h5_ h6_ h7_ h8_ h9_
          have BK274 := n0_
          have BK275 := n1_
          have BK281 := n2_
          have GW281 := n3_
          have GE281 := n4_
          have NB274_281 := n5_
          have NB281_274 := n6_
          have NB275_281 := n7_
          have NB281_275 := n8_
          have HB := n9_
          clear n0_ n1_ n2_ n3_ n4_ n5_ n6_ n7_ n8_ n9_
          have hHeld : w8.cell? ⟨gb274, 0, none⟩ = some (.int .i64 a0_0) ∧ w8.cell? ⟨gb274, 1, none⟩ = some (.int .i64 a0_1) ∧ w8.cell? ⟨gb274, 2, none⟩ = some (.slice A0_2 l0_2.length c0_2) ∧ w8.cell? ⟨gb274, 3, none⟩ = some (.slice A0_3 l0_3.length c0_3) ∧ w8.cell? ⟨gb274, 4, none⟩ = some (.slice A0_4 l0_4.length c0_4) := hS_
          refine norm_ (a' := ?_) ?_ ?_
          rotate_left
          ·
           simp only [putAll, Act.put, List.setIfInBounds_toArray, List.set_cons_zero, List.set_cons_succ]
           rfl
          refine one_ (i := 2) (N := some 9) #[true, true, true, true, true, false, false, false, false, false, false, false, true, false] rfl rfl (one_of HT_.out (by kernel_rfl)) (by decide) (fun K hK => ?_)
          refine goes_ Try.func84 (by kernel_rfl) rfl #[.int .i64 a0_0] (by rfl) rfl rfl gm_ ?_
          with_reducible refine (chancellaw5_kind.calls a0_0 t276 _ A2.out).mono ?_
          rintro e w9 ⟨rfl, hb⟩
          refine ⟨_, rfl, ?_⟩
          replace BK274 := aZ_ (blk_below (g := gb274) (o := .cells #[.int .i64 a0_0, .int .i64 a0_1, .slice A0_2 l0_2.length c0_2, .slice A0_3 l0_3.length c0_3, .slice A0_4 l0_4.length c0_4] 42 (0, 0)) (bk BK274) hb)
          replace BK275 := aZ_ (blk_below (g := gb275) (o := .cells #[.string (⟨#[]⟩ : ByteArray), .string (⟨#[]⟩ : ByteArray), .slice none 0 0, .slice none 0 0] 46 (0, 0)) (bk BK275) hb)
          replace BK281 := aZ_ (blk_below (g := gb281) (o := .cells #[.string (⟨#[]⟩ : ByteArray), .string (⟨#[]⟩ : ByteArray), .slice none 0 0, .slice none 0 0] 46 (0, 0)) (bk BK281) hb)
          replace HB := aZ_ (below_step (bl3 HB GE274 GE275 GE281) hb)
          (try clear hb)
          (try clear hb2)
          (try clear hk)
          (try clear hi)
          refine hK.out _ _ ⟨(blk_cell BK274.out 0).trans rfl, (blk_cell BK274.out 1).trans rfl, (blk_cell BK274.out 2).trans rfl, (blk_cell BK274.out 3).trans rfl, (blk_cell BK274.out 4).trans rfl⟩ (fun hHeld => ?_)
          clear hK K
          refine norm_ (a' := ?_) ?_ ?_
          rotate_left
          ·
           show Act.put _ (some 9) _ = _
           simp only [Act.put, List.setIfInBounds_toArray, List.set_cons_zero, List.set_cons_succ, i64_w, i32_w]
           rfl
          exact norm_ nm_ (hJ2_12 (gb281) _ ⟨hHeld, (bk BK274), (bk BK275), (bk BK281), GW281.out, GE281.out, NB274_281.out, NB281_274.out, NB275_281.out, NB281_275.out, (bl3 HB GE274 GE275 GE281)⟩)
        ·
         skip
         rintro _ w8 ⟨hS_, h0_, h1_, h2_⟩
         have n0_ : Aside0 (w8.heap[gb274]? = some (.cells #[.int .i64 a0_0, .int .i64 a0_1, .slice A0_2 l0_2.length c0_2, .slice A0_3 l0_3.length c0_3, .slice A0_4 l0_4.length c0_4] 42 (0, 0))) := ⟨h0_⟩
         have n1_ : Aside0 (w8.heap[gb275]? = some (.cells #[.string (⟨#[]⟩ : ByteArray), .string (⟨#[]⟩ : ByteArray), .slice none 0 0, .slice none 0 0] 46 (0, 0))) := ⟨h1_⟩
         have n2_ : Aside0 (Below w.heap.size w w8) := ⟨h2_⟩
         clear BK274
         clear BK275
         clear HB
         clear h0_ h1_ h2_
         have BK274 := n0_
         have BK275 := n1_
         have HB := n2_
         clear n0_ n1_ n2_
         have hHeld : w8.cell? ⟨gb274, 0, none⟩ = some (.int .i64 a0_0) ∧ w8.cell? ⟨gb274, 1, none⟩ = some (.int .i64 a0_1) ∧ w8.cell? ⟨gb274, 2, none⟩ = some (.slice A0_2 l0_2.length c0_2) ∧ w8.cell? ⟨gb274, 3, none⟩ = some (.slice A0_3 l0_3.length c0_3) ∧ w8.cell? ⟨gb274, 4, none⟩ = some (.slice A0_4 l0_4.length c0_4) := hS_
         refine norm_ (a' := ?_) ?_ ?_
         rotate_left
         ·
          simp only [putAll, Act.put, List.setIfInBounds_toArray, List.set_cons_zero, List.set_cons_succ]
          rfl
         refine two_ (i := 5) (j := 12) (Ni := some 12) (Nj := some 3) #[true, true, true, true, true, true, false, false, false, false, false, false, false, false] #[true, true, true, true, true, false, false, false, false, false, false, false, true, false] rfl rfl rfl rfl (two_of HT_.out (by kernel_rfl)) (by decide) (by decide) (fun K hK => ?_) (fun K hK => ?_)
         ·
          skip
          refine goes_ Try.func85 (by kernel_rfl) rfl #[.int .i64 a0_1, .int .i64 5] (by rfl) rfl rfl gm_ ?_
          with_reducible refine (chancellaw5_within.calls a0_1 5 t277 _ A3.out).mono ?_
          rintro e w' ⟨rfl, ⟨nd, rfl⟩⟩
          refine ⟨_, rfl, ?_⟩
          refine hK.out _ _ ⟨(blk_cell BK274.out 0).trans rfl, (blk_cell BK274.out 1).trans rfl, (blk_cell BK274.out 2).trans rfl, (blk_cell BK274.out 3).trans rfl, (blk_cell BK274.out 4).trans rfl⟩ (fun hHeld => ?_)
          clear hK K
          refine norm_ (a' := ?_) ?_ ?_
          rotate_left
          ·
           show Act.put _ (some 12) _ = _
           simp only [Act.put, List.setIfInBounds_toArray, List.set_cons_zero, List.set_cons_succ, i64_w, i32_w]
           rfl
          refine pS_ 6 13 (fa 14 127) HT_ ?_
          refine pS_ 7 14 (fa 14 255) HT_ ?_
          exact norm_ nm_ (hJ2_5 () _ ⟨hHeld, (bk BK274), (bk BK275), (bl2 HB GE274 GE275)⟩)
         ·
          skip
          refine box_step ?hg (N := 3) ?hd (cs := #[.string (⟨#[]⟩ : ByteArray), .string (⟨#[]⟩ : ByteArray), .slice none 0 0, .slice none 0 0]) (t := 46) ?hr ?_; (case hd => rfl); (case hg => rfl); (case hr => first | (go_simp; done) | (go_simp; rfl))
          intro gb281 hg w9 hbox hb
          have BK281 := aZ_ (hbox)
          have GW281 := aZ_ ((by rw [hg]; exact (below_size (bl2 HB GE274 GE275)) : w.heap.size ≤ gb281))
          have GE281 := aZ_ ((by rw [hg]; exact (below_size (bl2 HB GE274 GE275)) : w.heap.size ≤ gb281))
          replace HB := aZ_ (below_step (bl2 HB GE274 GE275) hb)
          have NB274_281 := aZ_ ((by rw [hg]; exact Nat.ne_of_lt (blk_lt (g := gb274) (o := .cells #[.int .i64 a0_0, .int .i64 a0_1, .slice A0_2 l0_2.length c0_2, .slice A0_3 l0_3.length c0_3, .slice A0_4 l0_4.length c0_4] 42 (0, 0)) (bk BK274)) : gb274 ≠ gb281))
          have NB281_274 := aZ_ ((by rw [hg]; exact Nat.ne_of_gt (blk_lt (g := gb274) (o := .cells #[.int .i64 a0_0, .int .i64 a0_1, .slice A0_2 l0_2.length c0_2, .slice A0_3 l0_3.length c0_3, .slice A0_4 l0_4.length c0_4] 42 (0, 0)) (bk BK274)) : gb281 ≠ gb274))
          replace BK274 := aZ_ (blk_below (g := gb274) (o := .cells #[.int .i64 a0_0, .int .i64 a0_1, .slice A0_2 l0_2.length c0_2, .slice A0_3 l0_3.length c0_3, .slice A0_4 l0_4.length c0_4] 42 (0, 0)) (bk BK274) hb)
          have NB275_281 := aZ_ ((by rw [hg]; exact Nat.ne_of_lt (blk_lt (g := gb275) (o := .cells #[.string (⟨#[]⟩ : ByteArray), .string (⟨#[]⟩ : ByteArray), .slice none 0 0, .slice none 0 0] 46 (0, 0)) (bk BK275)) : gb275 ≠ gb281))
          have NB281_275 := aZ_ ((by rw [hg]; exact Nat.ne_of_gt (blk_lt (g := gb275) (o := .cells #[.string (⟨#[]⟩ : ByteArray), .string (⟨#[]⟩ : ByteArray), .slice none 0 0, .slice none 0 0] 46 (0, 0)) (bk BK275)) : gb281 ≠ gb275))
          replace BK275 := aZ_ (blk_below (g := gb275) (o := .cells #[.string (⟨#[]⟩ : ByteArray), .string (⟨#[]⟩ : ByteArray), .slice none 0 0, .slice none 0 0] 46 (0, 0)) (bk BK275) hb)
          clear hb hbox hg
          refine hK.out _ _ ⟨(blk_cell BK274.out 0).trans rfl, (blk_cell BK274.out 1).trans rfl, (blk_cell BK274.out 2).trans rfl, (blk_cell BK274.out 3).trans rfl, (blk_cell BK274.out 4).trans rfl⟩ (fun hHeld => ?_)
          clear hK K
          refine norm_ (a' := ?_) ?_ ?_
          rotate_left
          ·
           show Act.put _ (some 3) _ = _
           simp only [Act.put, List.setIfInBounds_toArray, List.set_cons_zero, List.set_cons_succ, i64_w, i32_w]
           rfl
          exact norm_ nm_ (hJ2_12 (gb281) _ ⟨hHeld, (bk BK274), (bk BK275), (bk BK281), GW281.out, GE281.out, NB274_281.out, NB281_274.out, NB275_281.out, NB281_275.out, (bl3 HB GE274 GE275 GE281)⟩)
       ·
        skip
        rintro gb281 w9 ⟨hS_, h0_, h1_, h2_, h3_, h4_, h5_, h6_, h7_, h8_, h9_⟩
        have n0_ : Aside0 (w9.heap[gb274]? = some (.cells #[.int .i64 a0_0, .int .i64 a0_1, .slice A0_2 l0_2.length c0_2, .slice A0_3 l0_3.length c0_3, .slice A0_4 l0_4.length c0_4] 42 (0, 0))) := ⟨h0_⟩
        have n1_ : Aside0 (w9.heap[gb275]? = some (.cells #[.string (⟨#[]⟩ : ByteArray), .string (⟨#[]⟩ : ByteArray), .slice none 0 0, .slice none 0 0] 46 (0, 0))) := ⟨h1_⟩
        have n2_ : Aside0 (w9.heap[gb281]? = some (.cells #[.string (⟨#[]⟩ : ByteArray), .string (⟨#[]⟩ : ByteArray), .slice none 0 0, .slice none 0 0] 46 (0, 0))) := ⟨h2_⟩
        have n3_ : Aside0 (w.heap.size ≤ gb281) := ⟨h3_⟩
        have n4_ : Aside0 (w.heap.size ≤ gb281) := ⟨h4_⟩
        have n5_ : Aside0 (gb274 ≠ gb281) := ⟨h5_⟩
        have n6_ : Aside0 (gb281 ≠ gb274) := ⟨h6_⟩
        have n7_ : Aside0 (gb275 ≠ gb281) := ⟨h7_⟩
        have n8_ : Aside0 (gb281 ≠ gb275) := ⟨h8_⟩
        have n9_ : Aside0 (Below w.heap.size w w9) := ⟨h9_⟩
        clear BK274
        clear BK275
        clear HB
        clear h0_ h1_ h2_ h3_ h4_ h5_ h6_ h7_ h8_ h9_
        have BK274 := n0_
        have BK275 := n1_
        have BK281 := n2_
        have GW281 := n3_
        have GE281 := n4_
        have NB274_281 := n5_
        have NB281_274 := n6_
        have NB275_281 := n7_
        have NB281_275 := n8_
        have HB := n9_
        clear n0_ n1_ n2_ n3_ n4_ n5_ n6_ n7_ n8_ n9_
        have hHeld : w9.cell? ⟨gb274, 0, none⟩ = some (.int .i64 a0_0) ∧ w9.cell? ⟨gb274, 1, none⟩ = some (.int .i64 a0_1) ∧ w9.cell? ⟨gb274, 2, none⟩ = some (.slice A0_2 l0_2.length c0_2) ∧ w9.cell? ⟨gb274, 3, none⟩ = some (.slice A0_3 l0_3.length c0_3) ∧ w9.cell? ⟨gb274, 4, none⟩ = some (.slice A0_4 l0_4.length c0_4) := hS_
        refine norm_ (a' := ?_) ?_ ?_
        rotate_left
        ·
         simp only [putAll, Act.put, List.setIfInBounds_toArray, List.set_cons_zero, List.set_cons_succ]
         rfl
        refine one_ (i := 5) (N := some 12) #[true, true, true, true, true, true, false, false, false, false, false, false, true, false] rfl rfl (one_of HT_.out (by kernel_rfl)) (by decide) (fun K hK => ?_)
        refine goes_ Try.func85 (by kernel_rfl) rfl #[.int .i64 a0_1, .int .i64 5] (by rfl) rfl rfl gm_ ?_
        with_reducible refine (chancellaw5_within.calls a0_1 5 t277 _ A3.out).mono ?_
        rintro e w' ⟨rfl, ⟨nd, rfl⟩⟩
        refine ⟨_, rfl, ?_⟩
        refine hK.out _ _ ⟨(blk_cell BK274.out 0).trans rfl, (blk_cell BK274.out 1).trans rfl, (blk_cell BK274.out 2).trans rfl, (blk_cell BK274.out 3).trans rfl, (blk_cell BK274.out 4).trans rfl⟩ (fun hHeld => ?_)
        clear hK K
        refine norm_ (a' := ?_) ?_ ?_
        rotate_left
        ·
         show Act.put _ (some 12) _ = _
         simp only [Act.put, List.setIfInBounds_toArray, List.set_cons_zero, List.set_cons_succ, i64_w, i32_w]
         rfl
        refine pS_ 6 13 (fa 14 4223) HT_ ?_
        refine pS_ 7 14 (fa 14 4351) HT_ ?_
        exact norm_ nm_ (hJ2_5_12 (gb281) _ ⟨hHeld, (bk BK274), (bk BK275), (bk BK281), GW281.out, GE281.out, NB274_281.out, NB281_274.out, NB275_281.out, NB281_275.out, (bl3 HB GE274 GE275 GE281)⟩)
      ·
       skip
       rintro _ w8 ⟨hS_, h0_, h1_, h2_⟩
       have n0_ : Aside0 (w8.heap[gb274]? = some (.cells #[.int .i64 a0_0, .int .i64 a0_1, .slice A0_2 l0_2.length c0_2, .slice A0_3 l0_3.length c0_3, .slice A0_4 l0_4.length c0_4] 42 (0, 0))) := ⟨h0_⟩
       have n1_ : Aside0 (w8.heap[gb275]? = some (.cells #[.string (⟨#[]⟩ : ByteArray), .string (⟨#[]⟩ : ByteArray), .slice none 0 0, .slice none 0 0] 46 (0, 0))) := ⟨h1_⟩
       have n2_ : Aside0 (Below w.heap.size w w8) := ⟨h2_⟩
       clear BK274
       clear BK275
       clear HB
       clear h0_ h1_ h2_
       have BK274 := n0_
       have BK275 := n1_
       have HB := n2_
       clear n0_ n1_ n2_
       have hHeld : w8.cell? ⟨gb274, 0, none⟩ = some (.int .i64 a0_0) ∧ w8.cell? ⟨gb274, 1, none⟩ = some (.int .i64 a0_1) ∧ w8.cell? ⟨gb274, 2, none⟩ = some (.slice A0_2 l0_2.length c0_2) ∧ w8.cell? ⟨gb274, 3, none⟩ = some (.slice A0_3 l0_3.length c0_3) ∧ w8.cell? ⟨gb274, 4, none⟩ = some (.slice A0_4 l0_4.length c0_4) := hS_
       refine norm_ (a' := ?_) ?_ ?_
       rotate_left
       ·
        simp only [putAll, Act.put, List.setIfInBounds_toArray, List.set_cons_zero, List.set_cons_succ]
        rfl
       refine two_ (i := 8) (j := 12) (Ni := some 15) (Nj := some 3) #[true, true, true, true, true, true, true, true, true, false, false, false, false, false] #[true, true, true, true, true, true, true, true, false, false, false, false, true, false] rfl rfl rfl rfl (two_of HT_.out (by kernel_rfl)) (by decide) (by decide) (fun K hK => ?_) (fun K hK => ?_)
       ·
        skip
        refine Kd.R_lit_step (Kd.int .u8) _ 5 ?hg (N := 15) ?hd (xs := ([(wrap64 (97 + t277)) % 256] : List Int)) (inner := [.int .u8 ((wrap64 (97 + t277)) % 256)]) (ok := fun _ => True) (okp := fun _ => True) ?hr ?hp (fun _ hk => hk) trivial (Below.refl _ _) (Nat.le_refl _) (by simp) ?_; (case hd => rfl); (case hg => rfl); (case hr => first | (go_simp; done) | (go_simp; rfl)); (case hp => exact (Reps.one (show Kd.M (Kd.int .u8) _ _ _ ((wrap64 (97 + t277)) % 256) [.int .u8 ((wrap64 (97 + t277)) % 256)] from rfl) (Reps.none _ _)))
        intro v279 w9 ho10 hb hg_ hnew_
        clear hg_ hnew_
        (first | rw [← Ny278.out] at ho10 | (simp only [Int.reduceToNat] at ho10; rw [← Ny278.out] at ho10))
        have HO280 := aZ_ (Kd.R_lower (Kd.R_newM (M := fun k_ => (w.heap.size ≤ k_)) ho10 (below_size (bl2 HB GE274 GE275)) (fun k_ h_ => h_)) (below_size (bl2 HB GE274 GE275)))
        replace BK274 := aZ_ (blk_below (g := gb274) (o := .cells #[.int .i64 a0_0, .int .i64 a0_1, .slice A0_2 l0_2.length c0_2, .slice A0_3 l0_3.length c0_3, .slice A0_4 l0_4.length c0_4] 42 (0, 0)) (bk BK274) hb)
        replace BK275 := aZ_ (blk_below (g := gb275) (o := .cells #[.string (⟨#[]⟩ : ByteArray), .string (⟨#[]⟩ : ByteArray), .slice none 0 0, .slice none 0 0] 46 (0, 0)) (bk BK275) hb)
        replace HB := aZ_ (below_step (bl2 HB GE274 GE275) hb)
        clear hb ho10
        refine hK.out _ _ ⟨(blk_cell BK274.out 0).trans rfl, (blk_cell BK274.out 1).trans rfl, (blk_cell BK274.out 2).trans rfl, (blk_cell BK274.out 3).trans rfl, (blk_cell BK274.out 4).trans rfl⟩ (fun hHeld => ?_)
        clear hK K
        refine norm_ (a' := ?_) ?_ ?_
        rotate_left
        ·
         show Act.put _ (some 15) _ = _
         simp only [Act.put, List.setIfInBounds_toArray, List.set_cons_zero, List.set_cons_succ, i64_w, i32_w]
         rfl
        exact norm_ nm_ (hJ2_5_8 (v279) _ ⟨hHeld, (by (with_reducible repeat (first | apply Kd.R_alloc | apply Kd.R_drewN | apply Kd.R_drew)); exact Kd.R_mono HO280.out (fun _ hk => hk.1)), (bk BK274), (bk BK275), (bl2 HB GE274 GE275)⟩)
       ·
        skip
        refine box_step ?hg (N := 3) ?hd (cs := #[.string (⟨#[]⟩ : ByteArray), .string (⟨#[]⟩ : ByteArray), .slice none 0 0, .slice none 0 0]) (t := 46) ?hr ?_; (case hd => rfl); (case hg => rfl); (case hr => first | (go_simp; done) | (go_simp; rfl))
        intro gb281 hg w9 hbox hb
        have BK281 := aZ_ (hbox)
        have GW281 := aZ_ ((by rw [hg]; exact (below_size (bl2 HB GE274 GE275)) : w.heap.size ≤ gb281))
        have GE281 := aZ_ ((by rw [hg]; exact (below_size (bl2 HB GE274 GE275)) : w.heap.size ≤ gb281))
        replace HB := aZ_ (below_step (bl2 HB GE274 GE275) hb)
        have NB274_281 := aZ_ ((by rw [hg]; exact Nat.ne_of_lt (blk_lt (g := gb274) (o := .cells #[.int .i64 a0_0, .int .i64 a0_1, .slice A0_2 l0_2.length c0_2, .slice A0_3 l0_3.length c0_3, .slice A0_4 l0_4.length c0_4] 42 (0, 0)) (bk BK274)) : gb274 ≠ gb281))
        have NB281_274 := aZ_ ((by rw [hg]; exact Nat.ne_of_gt (blk_lt (g := gb274) (o := .cells #[.int .i64 a0_0, .int .i64 a0_1, .slice A0_2 l0_2.length c0_2, .slice A0_3 l0_3.length c0_3, .slice A0_4 l0_4.length c0_4] 42 (0, 0)) (bk BK274)) : gb281 ≠ gb274))
        replace BK274 := aZ_ (blk_below (g := gb274) (o := .cells #[.int .i64 a0_0, .int .i64 a0_1, .slice A0_2 l0_2.length c0_2, .slice A0_3 l0_3.length c0_3, .slice A0_4 l0_4.length c0_4] 42 (0, 0)) (bk BK274) hb)
        have NB275_281 := aZ_ ((by rw [hg]; exact Nat.ne_of_lt (blk_lt (g := gb275) (o := .cells #[.string (⟨#[]⟩ : ByteArray), .string (⟨#[]⟩ : ByteArray), .slice none 0 0, .slice none 0 0] 46 (0, 0)) (bk BK275)) : gb275 ≠ gb281))
        have NB281_275 := aZ_ ((by rw [hg]; exact Nat.ne_of_gt (blk_lt (g := gb275) (o := .cells #[.string (⟨#[]⟩ : ByteArray), .string (⟨#[]⟩ : ByteArray), .slice none 0 0, .slice none 0 0] 46 (0, 0)) (bk BK275)) : gb281 ≠ gb275))
        replace BK275 := aZ_ (blk_below (g := gb275) (o := .cells #[.string (⟨#[]⟩ : ByteArray), .string (⟨#[]⟩ : ByteArray), .slice none 0 0, .slice none 0 0] 46 (0, 0)) (bk BK275) hb)
        clear hb hbox hg
        refine hK.out _ _ ⟨(blk_cell BK274.out 0).trans rfl, (blk_cell BK274.out 1).trans rfl, (blk_cell BK274.out 2).trans rfl, (blk_cell BK274.out 3).trans rfl, (blk_cell BK274.out 4).trans rfl⟩ (fun hHeld => ?_)
        clear hK K
        refine norm_ (a' := ?_) ?_ ?_
        rotate_left
        ·
         show Act.put _ (some 3) _ = _
         simp only [Act.put, List.setIfInBounds_toArray, List.set_cons_zero, List.set_cons_succ, i64_w, i32_w]
         rfl
        exact norm_ nm_ (hJ2_5_12 (gb281) _ ⟨hHeld, (bk BK274), (bk BK275), (bk BK281), GW281.out, GE281.out, NB274_281.out, NB281_274.out, NB275_281.out, NB281_275.out, (bl3 HB GE274 GE275 GE281)⟩)
     ·
      skip
      rintro gb281 w9 ⟨hS_, h0_, h1_, h2_, h3_, h4_, h5_, h6_, h7_, h8_, h9_⟩
      have n0_ : Aside0 (w9.heap[gb274]? = some (.cells #[.int .i64 a0_0, .int .i64 a0_1, .slice A0_2 l0_2.length c0_2, .slice A0_3 l0_3.length c0_3, .slice A0_4 l0_4.length c0_4] 42 (0, 0))) := ⟨h0_⟩
      have n1_ : Aside0 (w9.heap[gb275]? = some (.cells #[.string (⟨#[]⟩ : ByteArray), .string (⟨#[]⟩ : ByteArray), .slice none 0 0, .slice none 0 0] 46 (0, 0))) := ⟨h1_⟩
      have n2_ : Aside0 (w9.heap[gb281]? = some (.cells #[.string (⟨#[]⟩ : ByteArray), .string (⟨#[]⟩ : ByteArray), .slice none 0 0, .slice none 0 0] 46 (0, 0))) := ⟨h2_⟩
      have n3_ : Aside0 (w.heap.size ≤ gb281) := ⟨h3_⟩
      have n4_ : Aside0 (w.heap.size ≤ gb281) := ⟨h4_⟩
      have n5_ : Aside0 (gb274 ≠ gb281) := ⟨h5_⟩
      have n6_ : Aside0 (gb281 ≠ gb274) := ⟨h6_⟩
      have n7_ : Aside0 (gb275 ≠ gb281) := ⟨h7_⟩
      have n8_ : Aside0 (gb281 ≠ gb275) := ⟨h8_⟩
      have n9_ : Aside0 (Below w.heap.size w w9) := ⟨h9_⟩
      clear BK274
      clear BK275
      clear HB
      clear h0_ h1_ h2_ h3_ h4_ h5_ h6_ h7_ h8_ h9_
      have BK274 := n0_
      have BK275 := n1_
      have BK281 := n2_
      have GW281 := n3_
      have GE281 := n4_
      have NB274_281 := n5_
      have NB281_274 := n6_
      have NB275_281 := n7_
      have NB281_275 := n8_
      have HB := n9_
      clear n0_ n1_ n2_ n3_ n4_ n5_ n6_ n7_ n8_ n9_
      have hHeld : w9.cell? ⟨gb274, 0, none⟩ = some (.int .i64 a0_0) ∧ w9.cell? ⟨gb274, 1, none⟩ = some (.int .i64 a0_1) ∧ w9.cell? ⟨gb274, 2, none⟩ = some (.slice A0_2 l0_2.length c0_2) ∧ w9.cell? ⟨gb274, 3, none⟩ = some (.slice A0_3 l0_3.length c0_3) ∧ w9.cell? ⟨gb274, 4, none⟩ = some (.slice A0_4 l0_4.length c0_4) := hS_
      refine norm_ (a' := ?_) ?_ ?_
      rotate_left
      ·
       simp only [putAll, Act.put, List.setIfInBounds_toArray, List.set_cons_zero, List.set_cons_succ]
       rfl
      refine one_ (i := 8) (N := some 15) #[true, true, true, true, true, true, true, true, true, false, false, false, true, false] rfl rfl (one_of HT_.out (by kernel_rfl)) (by decide) (fun K hK => ?_)
      refine Kd.R_lit_step (Kd.int .u8) _ 5 ?hg (N := 15) ?hd (xs := ([(wrap64 (97 + t277)) % 256] : List Int)) (inner := [.int .u8 ((wrap64 (97 + t277)) % 256)]) (ok := fun _ => True) (okp := fun _ => True) ?hr ?hp (fun _ hk => hk) trivial (Below.refl _ _) (Nat.le_refl _) (by simp) ?_; (case hd => rfl); (case hg => rfl); (case hr => first | (go_simp; done) | (go_simp; rfl)); (case hp => exact (Reps.one (show Kd.M (Kd.int .u8) _ _ _ ((wrap64 (97 + t277)) % 256) [.int .u8 ((wrap64 (97 + t277)) % 256)] from rfl) (Reps.none _ _)))
      intro v279 w10 ho11 hb hg_ hnew_
      clear hg_ hnew_
      (first | rw [← Ny278.out] at ho11 | (simp only [Int.reduceToNat] at ho11; rw [← Ny278.out] at ho11))
      have HO280 := aZ_ (Kd.R_lower (Kd.R_newM (M := fun k_ => (w.heap.size ≤ k_)) ho11 (below_size (bl3 HB GE274 GE275 GE281)) (fun k_ h_ => h_)) (below_size (bl3 HB GE274 GE275 GE281)))
      replace BK274 := aZ_ (blk_below (g := gb274) (o := .cells #[.int .i64 a0_0, .int .i64 a0_1, .slice A0_2 l0_2.length c0_2, .slice A0_3 l0_3.length c0_3, .slice A0_4 l0_4.length c0_4] 42 (0, 0)) (bk BK274) hb)
      replace BK275 := aZ_ (blk_below (g := gb275) (o := .cells #[.string (⟨#[]⟩ : ByteArray), .string (⟨#[]⟩ : ByteArray), .slice none 0 0, .slice none 0 0] 46 (0, 0)) (bk BK275) hb)
      replace BK281 := aZ_ (blk_below (g := gb281) (o := .cells #[.string (⟨#[]⟩ : ByteArray), .string (⟨#[]⟩ : ByteArray), .slice none 0 0, .slice none 0 0] 46 (0, 0)) (bk BK281) hb)
      replace HB := aZ_ (below_step (bl3 HB GE274 GE275 GE281) hb)
      clear hb ho11
      refine hK.out _ _ ⟨(blk_cell BK274.out 0).trans rfl, (blk_cell BK274.out 1).trans rfl, (blk_cell BK274.out 2).trans rfl, (blk_cell BK274.out 3).trans rfl, (blk_cell BK274.out 4).trans rfl⟩ (fun hHeld => ?_)
      clear hK K
      refine norm_ (a' := ?_) ?_ ?_
      rotate_left
      ·
       show Act.put _ (some 15) _ = _
       simp only [Act.put, List.setIfInBounds_toArray, List.set_cons_zero, List.set_cons_succ, i64_w, i32_w]
       rfl
      exact norm_ nm_ (hJ2_5_8_12 (v279, gb281) _ ⟨hHeld, (by (with_reducible repeat (first | apply Kd.R_alloc | apply Kd.R_drewN | apply Kd.R_drew)); exact Kd.R_mono HO280.out (fun _ hk => hk.1)), (bk BK274), (bk BK275), (bk BK281), GW281.out, GE281.out, NB274_281.out, NB281_274.out, NB275_281.out, NB281_275.out, (bl3 HB GE274 GE275 GE281)⟩)
    ·
     skip
     rintro v279 w10 ⟨hS_, h0_, h1_, h2_, h3_⟩
     have n0_ : Aside0 (Kd.R (Kd.int .u8) 5 w10 w.heap.size (fun k_ => (w.heap.size ≤ k_)) v279 y278) := ⟨h0_⟩
     have n1_ : Aside0 (w10.heap[gb274]? = some (.cells #[.int .i64 a0_0, .int .i64 a0_1, .slice A0_2 l0_2.length c0_2, .slice A0_3 l0_3.length c0_3, .slice A0_4 l0_4.length c0_4] 42 (0, 0))) := ⟨h1_⟩
     have n2_ : Aside0 (w10.heap[gb275]? = some (.cells #[.string (⟨#[]⟩ : ByteArray), .string (⟨#[]⟩ : ByteArray), .slice none 0 0, .slice none 0 0] 46 (0, 0))) := ⟨h2_⟩
     have n3_ : Aside0 (Below w.heap.size w w10) := ⟨h3_⟩
     clear BK274
     clear BK275
     clear HB
     clear h0_ h1_ h2_ h3_
     have HO280 := n0_
     have BK274 := n1_
     have BK275 := n2_
     have HB := n3_
     clear n0_ n1_ n2_ n3_
     have hHeld : w10.cell? ⟨gb274, 0, none⟩ = some (.int .i64 a0_0) ∧ w10.cell? ⟨gb274, 1, none⟩ = some (.int .i64 a0_1) ∧ w10.cell? ⟨gb274, 2, none⟩ = some (.slice A0_2 l0_2.length c0_2) ∧ w10.cell? ⟨gb274, 3, none⟩ = some (.slice A0_3 l0_3.length c0_3) ∧ w10.cell? ⟨gb274, 4, none⟩ = some (.slice A0_4 l0_4.length c0_4) := hS_
     refine norm_ (a' := ?_) ?_ ?_
     rotate_left
     ·
      simp only [putAll, Act.put, List.setIfInBounds_toArray, List.set_cons_zero, List.set_cons_succ]
      rfl
     refine two_ (i := 9) (j := 12) (Ni := some 16) (Nj := some 3) #[true, true, true, true, true, true, true, true, true, true, false, false, false, false] #[true, true, true, true, true, true, true, true, true, false, false, false, true, false] rfl rfl rfl rfl (two_of HT_.out (by kernel_rfl)) (by decide) (by decide) (fun K hK => ?_) (fun K hK => ?_)
     ·
      skip
      have hcv11 := own_string (P := Try.prog) Try.underlying109 Try.underlying5 Try.underlying9 (Kd.own_of_R HO280.out)
      refine value_ (w1 := ?_) (v := ?_) (by rfl) rfl ?_ ?_
      rotate_left 2
      ·
       go_simp
       constructor
       ·
        rfl
       ·
        rfl
      clear hcv11
      refine hK.out _ _ ⟨(blk_cell BK274.out 0).trans rfl, (blk_cell BK274.out 1).trans rfl, (blk_cell BK274.out 2).trans rfl, (blk_cell BK274.out 3).trans rfl, (blk_cell BK274.out 4).trans rfl⟩ (fun hHeld => ?_)
      clear hK K
      refine norm_ (a' := ?_) ?_ ?_
      rotate_left
      ·
       show Act.put _ (some 16) _ = _
       simp only [Act.put, List.setIfInBounds_toArray, List.set_cons_zero, List.set_cons_succ, i64_w, i32_w]
       rfl
      refine pS_ 10 17 (fa 14 2047) HT_ ?_
      refine pS_ 11 18 (fa 14 4095) HT_ ?_
      exact norm_ nm_ (hJ2_5_8_9 (v279) _ ⟨hHeld, (kR HO280), (bk BK274), (bk BK275), (bl2 HB GE274 GE275)⟩)
     ·
      skip
      refine box_step ?hg (N := 3) ?hd (cs := #[.string (⟨#[]⟩ : ByteArray), .string (⟨#[]⟩ : ByteArray), .slice none 0 0, .slice none 0 0]) (t := 46) ?hr ?_; (case hd => rfl); (case hg => rfl); (case hr => first | (go_simp; done) | (go_simp; rfl))
      intro gb281 hg w11 hbox hb
      replace HO280 := aZ_ (Kd.R_below (kR HO280) hb)
      have BK281 := aZ_ (hbox)
      have GW281 := aZ_ ((by rw [hg]; exact (below_size (bl2 HB GE274 GE275)) : w.heap.size ≤ gb281))
      have GE281 := aZ_ ((by rw [hg]; exact (below_size (bl2 HB GE274 GE275)) : w.heap.size ≤ gb281))
      replace HB := aZ_ (below_step (bl2 HB GE274 GE275) hb)
      have NB274_281 := aZ_ ((by rw [hg]; exact Nat.ne_of_lt (blk_lt (g := gb274) (o := .cells #[.int .i64 a0_0, .int .i64 a0_1, .slice A0_2 l0_2.length c0_2, .slice A0_3 l0_3.length c0_3, .slice A0_4 l0_4.length c0_4] 42 (0, 0)) (bk BK274)) : gb274 ≠ gb281))
      have NB281_274 := aZ_ ((by rw [hg]; exact Nat.ne_of_gt (blk_lt (g := gb274) (o := .cells #[.int .i64 a0_0, .int .i64 a0_1, .slice A0_2 l0_2.length c0_2, .slice A0_3 l0_3.length c0_3, .slice A0_4 l0_4.length c0_4] 42 (0, 0)) (bk BK274)) : gb281 ≠ gb274))
      replace BK274 := aZ_ (blk_below (g := gb274) (o := .cells #[.int .i64 a0_0, .int .i64 a0_1, .slice A0_2 l0_2.length c0_2, .slice A0_3 l0_3.length c0_3, .slice A0_4 l0_4.length c0_4] 42 (0, 0)) (bk BK274) hb)
      have NB275_281 := aZ_ ((by rw [hg]; exact Nat.ne_of_lt (blk_lt (g := gb275) (o := .cells #[.string (⟨#[]⟩ : ByteArray), .string (⟨#[]⟩ : ByteArray), .slice none 0 0, .slice none 0 0] 46 (0, 0)) (bk BK275)) : gb275 ≠ gb281))
      have NB281_275 := aZ_ ((by rw [hg]; exact Nat.ne_of_gt (blk_lt (g := gb275) (o := .cells #[.string (⟨#[]⟩ : ByteArray), .string (⟨#[]⟩ : ByteArray), .slice none 0 0, .slice none 0 0] 46 (0, 0)) (bk BK275)) : gb281 ≠ gb275))
      replace BK275 := aZ_ (blk_below (g := gb275) (o := .cells #[.string (⟨#[]⟩ : ByteArray), .string (⟨#[]⟩ : ByteArray), .slice none 0 0, .slice none 0 0] 46 (0, 0)) (bk BK275) hb)
      clear hb hbox hg
      refine hK.out _ _ ⟨(blk_cell BK274.out 0).trans rfl, (blk_cell BK274.out 1).trans rfl, (blk_cell BK274.out 2).trans rfl, (blk_cell BK274.out 3).trans rfl, (blk_cell BK274.out 4).trans rfl⟩ (fun hHeld => ?_)
      clear hK K
      refine norm_ (a' := ?_) ?_ ?_
      rotate_left
      ·
       show Act.put _ (some 3) _ = _
       simp only [Act.put, List.setIfInBounds_toArray, List.set_cons_zero, List.set_cons_succ, i64_w, i32_w]
       rfl
      exact norm_ nm_ (hJ2_5_8_12 (v279, gb281) _ ⟨hHeld, (kR HO280), (bk BK274), (bk BK275), (bk BK281), GW281.out, GE281.out, NB274_281.out, NB281_274.out, NB275_281.out, NB281_275.out, (bl3 HB GE274 GE275 GE281)⟩)
   ·
    skip
    rintro ⟨v279, gb281⟩ w11 ⟨hS_, h0_, h1_, h2_, h3_, h4_, h5_, h6_, h7_, h8_, h9_, h10_⟩
    have n0_ : Aside0 (Kd.R (Kd.int .u8) 5 w11 w.heap.size (fun k_ => (w.heap.size ≤ k_)) v279 y278) := ⟨h0_⟩
    have n1_ : Aside0 (w11.heap[gb274]? = some (.cells #[.int .i64 a0_0, .int .i64 a0_1, .slice A0_2 l0_2.length c0_2, .slice A0_3 l0_3.length c0_3, .slice A0_4 l0_4.length c0_4] 42 (0, 0))) := ⟨h1_⟩
    have n2_ : Aside0 (w11.heap[gb275]? = some (.cells #[.string (⟨#[]⟩ : ByteArray), .string (⟨#[]⟩ : ByteArray), .slice none 0 0, .slice none 0 0] 46 (0, 0))) := ⟨h2_⟩
    have n3_ : Aside0 (w11.heap[gb281]? = some (.cells #[.string (⟨#[]⟩ : ByteArray), .string (⟨#[]⟩ : ByteArray), .slice none 0 0, .slice none 0 0] 46 (0, 0))) := ⟨h3_⟩
    have n4_ : Aside0 (w.heap.size ≤ gb281) := ⟨h4_⟩
    have n5_ : Aside0 (w.heap.size ≤ gb281) := ⟨h5_⟩
    have n6_ : Aside0 (gb274 ≠ gb281) := ⟨h6_⟩
    have n7_ : Aside0 (gb281 ≠ gb274) := ⟨h7_⟩
    have n8_ : Aside0 (gb275 ≠ gb281) := ⟨h8_⟩
    have n9_ : Aside0 (gb281 ≠ gb275) := ⟨h9_⟩
    have n10_ : Aside0 (Below w.heap.size w w11) := ⟨h10_⟩
    clear BK274
    clear BK275
    clear HB
    clear h0_ h1_ h2_ h3_ h4_ h5_ h6_ h7_ h8_ h9_ h10_
    have HO280 := n0_
    have BK274 := n1_
    have BK275 := n2_
    have BK281 := n3_
    have GW281 := n4_
    have GE281 := n5_
    have NB274_281 := n6_
    have NB281_274 := n7_
    have NB275_281 := n8_
    have NB281_275 := n9_
    have HB := n10_
    clear n0_ n1_ n2_ n3_ n4_ n5_ n6_ n7_ n8_ n9_ n10_
    have hHeld : w11.cell? ⟨gb274, 0, none⟩ = some (.int .i64 a0_0) ∧ w11.cell? ⟨gb274, 1, none⟩ = some (.int .i64 a0_1) ∧ w11.cell? ⟨gb274, 2, none⟩ = some (.slice A0_2 l0_2.length c0_2) ∧ w11.cell? ⟨gb274, 3, none⟩ = some (.slice A0_3 l0_3.length c0_3) ∧ w11.cell? ⟨gb274, 4, none⟩ = some (.slice A0_4 l0_4.length c0_4) := hS_
    refine norm_ (a' := ?_) ?_ ?_
    rotate_left
    ·
     simp only [putAll, Act.put, List.setIfInBounds_toArray, List.set_cons_zero, List.set_cons_succ]
     rfl
    refine one_ (i := 9) (N := some 16) #[true, true, true, true, true, true, true, true, true, true, false, false, true, false] rfl rfl (one_of HT_.out (by kernel_rfl)) (by decide) (fun K hK => ?_)
    have hcv12 := own_string (P := Try.prog) Try.underlying109 Try.underlying5 Try.underlying9 (Kd.own_of_R HO280.out)
    refine value_ (w1 := ?_) (v := ?_) (by rfl) rfl ?_ ?_
    rotate_left 2
    ·
     go_simp
     constructor
     ·
      rfl
     ·
      rfl
    clear hcv12
    refine hK.out _ _ ⟨(blk_cell BK274.out 0).trans rfl, (blk_cell BK274.out 1).trans rfl, (blk_cell BK274.out 2).trans rfl, (blk_cell BK274.out 3).trans rfl, (blk_cell BK274.out 4).trans rfl⟩ (fun hHeld => ?_)
    clear hK K
    refine norm_ (a' := ?_) ?_ ?_
    rotate_left
    ·
     show Act.put _ (some 16) _ = _
     simp only [Act.put, List.setIfInBounds_toArray, List.set_cons_zero, List.set_cons_succ, i64_w, i32_w]
     rfl
    refine pS_ 10 17 (fa 14 6143) HT_ ?_
    refine pS_ 11 18 (fa 14 8191) HT_ ?_
    exact norm_ nm_ (hJ2_5_8_9_12 (v279, gb281) _ ⟨hHeld, (kR HO280), (bk BK274), (bk BK275), (bk BK281), GW281.out, GE281.out, NB274_281.out, NB281_274.out, NB275_281.out, NB281_275.out, (bl3 HB GE274 GE275 GE281)⟩)
  ·
   skip
   rintro v279 w11 ⟨hS_, h0_, h1_, h2_, h3_⟩
   have n0_ : Aside0 (Kd.R (Kd.int .u8) 5 w11 w.heap.size (fun k_ => (w.heap.size ≤ k_)) v279 y278) := ⟨h0_⟩
   have n1_ : Aside0 (w11.heap[gb274]? = some (.cells #[.int .i64 a0_0, .int .i64 a0_1, .slice A0_2 l0_2.length c0_2, .slice A0_3 l0_3.length c0_3, .slice A0_4 l0_4.length c0_4] 42 (0, 0))) := ⟨h1_⟩
   have n2_ : Aside0 (w11.heap[gb275]? = some (.cells #[.string (⟨#[]⟩ : ByteArray), .string (⟨#[]⟩ : ByteArray), .slice none 0 0, .slice none 0 0] 46 (0, 0))) := ⟨h2_⟩
   have n3_ : Aside0 (Below w.heap.size w w11) := ⟨h3_⟩
   clear BK274
   clear BK275
   clear HB
   clear h0_ h1_ h2_ h3_
   have HO280 := n0_
   have BK274 := n1_
   have BK275 := n2_
   have HB := n3_
   clear n0_ n1_ n2_ n3_
   have hHeld : w11.cell? ⟨gb274, 0, none⟩ = some (.int .i64 a0_0) ∧ w11.cell? ⟨gb274, 1, none⟩ = some (.int .i64 a0_1) ∧ w11.cell? ⟨gb274, 2, none⟩ = some (.slice A0_2 l0_2.length c0_2) ∧ w11.cell? ⟨gb274, 3, none⟩ = some (.slice A0_3 l0_3.length c0_3) ∧ w11.cell? ⟨gb274, 4, none⟩ = some (.slice A0_4 l0_4.length c0_4) := hS_
   refine norm_ (a' := ?_) ?_ ?_
   rotate_left
   ·
    simp only [putAll, Act.put, List.setIfInBounds_toArray, List.set_cons_zero, List.set_cons_succ]
    rfl
   refine one_ (i := 12) (N := some 3) #[true, true, true, true, true, true, true, true, true, true, true, true, true, false] rfl rfl (one_of HT_.out (by kernel_rfl)) (by decide) (fun K hK => ?_)
   refine box_step ?hg (N := 3) ?hd (cs := #[.string (⟨#[]⟩ : ByteArray), .string (⟨#[]⟩ : ByteArray), .slice none 0 0, .slice none 0 0]) (t := 46) ?hr ?_; (case hd => rfl); (case hg => rfl); (case hr => first | (go_simp; done) | (go_simp; rfl))
   intro gb281 hg w12 hbox hb
   replace HO280 := aZ_ (Kd.R_below (kR HO280) hb)
   have BK281 := aZ_ (hbox)
   have GW281 := aZ_ ((by rw [hg]; exact (below_size (bl2 HB GE274 GE275)) : w.heap.size ≤ gb281))
   have GE281 := aZ_ ((by rw [hg]; exact (below_size (bl2 HB GE274 GE275)) : w.heap.size ≤ gb281))
   replace HB := aZ_ (below_step (bl2 HB GE274 GE275) hb)
   have NB274_281 := aZ_ ((by rw [hg]; exact Nat.ne_of_lt (blk_lt (g := gb274) (o := .cells #[.int .i64 a0_0, .int .i64 a0_1, .slice A0_2 l0_2.length c0_2, .slice A0_3 l0_3.length c0_3, .slice A0_4 l0_4.length c0_4] 42 (0, 0)) (bk BK274)) : gb274 ≠ gb281))
   have NB281_274 := aZ_ ((by rw [hg]; exact Nat.ne_of_gt (blk_lt (g := gb274) (o := .cells #[.int .i64 a0_0, .int .i64 a0_1, .slice A0_2 l0_2.length c0_2, .slice A0_3 l0_3.length c0_3, .slice A0_4 l0_4.length c0_4] 42 (0, 0)) (bk BK274)) : gb281 ≠ gb274))
   replace BK274 := aZ_ (blk_below (g := gb274) (o := .cells #[.int .i64 a0_0, .int .i64 a0_1, .slice A0_2 l0_2.length c0_2, .slice A0_3 l0_3.length c0_3, .slice A0_4 l0_4.length c0_4] 42 (0, 0)) (bk BK274) hb)
   have NB275_281 := aZ_ ((by rw [hg]; exact Nat.ne_of_lt (blk_lt (g := gb275) (o := .cells #[.string (⟨#[]⟩ : ByteArray), .string (⟨#[]⟩ : ByteArray), .slice none 0 0, .slice none 0 0] 46 (0, 0)) (bk BK275)) : gb275 ≠ gb281))
   have NB281_275 := aZ_ ((by rw [hg]; exact Nat.ne_of_gt (blk_lt (g := gb275) (o := .cells #[.string (⟨#[]⟩ : ByteArray), .string (⟨#[]⟩ : ByteArray), .slice none 0 0, .slice none 0 0] 46 (0, 0)) (bk BK275)) : gb281 ≠ gb275))
   replace BK275 := aZ_ (blk_below (g := gb275) (o := .cells #[.string (⟨#[]⟩ : ByteArray), .string (⟨#[]⟩ : ByteArray), .slice none 0 0, .slice none 0 0] 46 (0, 0)) (bk BK275) hb)
   clear hb hbox hg
   refine hK.out _ _ ⟨(blk_cell BK274.out 0).trans rfl, (blk_cell BK274.out 1).trans rfl, (blk_cell BK274.out 2).trans rfl, (blk_cell BK274.out 3).trans rfl, (blk_cell BK274.out 4).trans rfl⟩ (fun hHeld => ?_)
   clear hK K
   refine norm_ (a' := ?_) ?_ ?_
   rotate_left
   ·
    show Act.put _ (some 3) _ = _
    simp only [Act.put, List.setIfInBounds_toArray, List.set_cons_zero, List.set_cons_succ, i64_w, i32_w]
    rfl
   exact norm_ nm_ (hJ2_5_8_9_12 (v279, gb281) _ ⟨hHeld, (kR HO280), (bk BK274), (bk BK275), (bk BK281), GW281.out, GE281.out, NB274_281.out, NB281_274.out, NB275_281.out, NB281_275.out, (bl3 HB GE274 GE275 GE281)⟩)
 rintro ⟨v279, gb281⟩ w12 ⟨hS_, h0_, h1_, h2_, h3_, h4_, h5_, h6_, h7_, h8_, h9_, h10_⟩
 have n0_ : Aside0 (Kd.R (Kd.int .u8) 5 w12 w.heap.size (fun k_ => (w.heap.size ≤ k_)) v279 y278) := ⟨h0_⟩
 have n1_ : Aside0 (w12.heap[gb274]? = some (.cells #[.int .i64 a0_0, .int .i64 a0_1, .slice A0_2 l0_2.length c0_2, .slice A0_3 l0_3.length c0_3, .slice A0_4 l0_4.length c0_4] 42 (0, 0))) := ⟨h1_⟩
 have n2_ : Aside0 (w12.heap[gb275]? = some (.cells #[.string (⟨#[]⟩ : ByteArray), .string (⟨#[]⟩ : ByteArray), .slice none 0 0, .slice none 0 0] 46 (0, 0))) := ⟨h2_⟩
 have n3_ : Aside0 (w12.heap[gb281]? = some (.cells #[.string (⟨#[]⟩ : ByteArray), .string (⟨#[]⟩ : ByteArray), .slice none 0 0, .slice none 0 0] 46 (0, 0))) := ⟨h3_⟩
 have n4_ : Aside0 (w.heap.size ≤ gb281) := ⟨h4_⟩
 have n5_ : Aside0 (w.heap.size ≤ gb281) := ⟨h5_⟩
 have n6_ : Aside0 (gb274 ≠ gb281) := ⟨h6_⟩
 have n7_ : Aside0 (gb281 ≠ gb274) := ⟨h7_⟩
 have n8_ : Aside0 (gb275 ≠ gb281) := ⟨h8_⟩
 have n9_ : Aside0 (gb281 ≠ gb275) := ⟨h9_⟩
 have n10_ : Aside0 (Below w.heap.size w w12) := ⟨h10_⟩
 clear BK274
 clear BK275
 clear HB
 clear h0_ h1_ h2_ h3_ h4_ h5_ h6_ h7_ h8_ h9_ h10_
 have HO280 := n0_
 have BK274 := n1_
 have BK275 := n2_
 have BK281 := n3_
 have GW281 := n4_
 have GE281 := n5_
 have NB274_281 := n6_
 have NB281_274 := n7_
 have NB275_281 := n8_
 have NB281_275 := n9_
 have HB := n10_
 clear n0_ n1_ n2_ n3_ n4_ n5_ n6_ n7_ n8_ n9_ n10_
 have hHeld : w12.cell? ⟨gb274, 0, none⟩ = some (.int .i64 a0_0) ∧ w12.cell? ⟨gb274, 1, none⟩ = some (.int .i64 a0_1) ∧ w12.cell? ⟨gb274, 2, none⟩ = some (.slice A0_2 l0_2.length c0_2) ∧ w12.cell? ⟨gb274, 3, none⟩ = some (.slice A0_3 l0_3.length c0_3) ∧ w12.cell? ⟨gb274, 4, none⟩ = some (.slice A0_4 l0_4.length c0_4) := hS_
 refine norm_ (a' := ?_) ?_ ?_
 rotate_left
 ·
  simp only [putAll, Act.put, List.setIfInBounds_toArray, List.set_cons_zero, List.set_cons_succ]
  rfl
 refine one_ (i := 13) (N := none) #[true, true, true, true, true, true, true, true, true, true, true, true, true, true] rfl rfl (one_of HT_.out (by kernel_rfl)) (by decide) (fun K hK => ?_)
 have hs13 : w12.cell? ⟨gb281, 0, none⟩ = some (.string (⟨#[]⟩ : ByteArray)) := (blk_cell BK281.out 0).trans rfl
 have hfs13 := blk_frozen BK281.out 0
 have hns13_0 := NB274_281.out
 have hns13_1 := NB275_281.out
 have hms13_0 := NB281_274.out
 have hms13_1 := NB281_275.out
 have hs14 : w12.cell? ⟨gb281, 1, none⟩ = some (.string (⟨#[]⟩ : ByteArray)) := (blk_cell BK281.out 1).trans rfl
 have hfs14 := blk_frozen BK281.out 1
 have hns14_0 := NB274_281.out
 have hns14_1 := NB275_281.out
 have hms14_0 := NB281_274.out
 have hms14_1 := NB281_275.out
 have hs15 : w12.cell? ⟨gb281, 2, none⟩ = some (.slice none 0 0) := (blk_cell BK281.out 2).trans rfl
 have hfs15 := blk_frozen BK281.out 2
 have hns15_0 := NB274_281.out
 have hns15_1 := NB275_281.out
 have hms15_0 := NB281_274.out
 have hms15_1 := NB281_275.out
 have hs16 : w12.cell? ⟨gb281, 3, none⟩ = some (.slice none 0 0) := (blk_cell BK281.out 3).trans rfl
 have hfs16 := blk_frozen BK281.out 3
 have hns16_0 := NB274_281.out
 have hns16_1 := NB275_281.out
 have hms16_0 := NB281_274.out
 have hms16_1 := NB281_275.out
 refine skip_ (w1 := ?_) (by rfl) rfl ?_ ?_
 rotate_left
 ·
  go_simp
  rfl
 refine hK.out _ _ ⟨((cell_far (p := ⟨gb281, _, none⟩) NB274_281.out _).trans (((cell_far (p := ⟨gb281, _, none⟩) NB274_281.out _).trans (((cell_far (p := ⟨gb281, _, none⟩) NB274_281.out _).trans (((cell_far (p := ⟨gb281, _, none⟩) NB274_281.out _).trans (hHeld.1)))))))), ((cell_far (p := ⟨gb281, _, none⟩) NB274_281.out _).trans (((cell_far (p := ⟨gb281, _, none⟩) NB274_281.out _).trans (((cell_far (p := ⟨gb281, _, none⟩) NB274_281.out _).trans (((cell_far (p := ⟨gb281, _, none⟩) NB274_281.out _).trans (hHeld.2.1)))))))), ((cell_far (p := ⟨gb281, _, none⟩) NB274_281.out _).trans (((cell_far (p := ⟨gb281, _, none⟩) NB274_281.out _).trans (((cell_far (p := ⟨gb281, _, none⟩) NB274_281.out _).trans (((cell_far (p := ⟨gb281, _, none⟩) NB274_281.out _).trans (hHeld.2.2.1)))))))), ((cell_far (p := ⟨gb281, _, none⟩) NB274_281.out _).trans (((cell_far (p := ⟨gb281, _, none⟩) NB274_281.out _).trans (((cell_far (p := ⟨gb281, _, none⟩) NB274_281.out _).trans (((cell_far (p := ⟨gb281, _, none⟩) NB274_281.out _).trans (hHeld.2.2.2.1)))))))), ((cell_far (p := ⟨gb281, _, none⟩) NB274_281.out _).trans (((cell_far (p := ⟨gb281, _, none⟩) NB274_281.out _).trans (((cell_far (p := ⟨gb281, _, none⟩) NB274_281.out _).trans (((cell_far (p := ⟨gb281, _, none⟩) NB274_281.out _).trans (hHeld.2.2.2.2))))))))⟩ (fun hHeld => ?_)
 clear hK K
 refine done_ (done_of HT_.out (by kernel_rfl)) ?_
 try go_wp2
 go_loopg [4] k (fun kq v4 w' => ∃ (x4_1 : Int) (x282002_1 : List (S28)) (u282002 : Value), v4 = .int .i64 x4_1 ∧ Aside0 (chancellaw5_Entity.l0 kq x4_1 a0_0 a0_1 l0_2 l0_3 l0_4 t276 (strOfNums y278) x282002_1 = some (r1, r2, r3, r4)) ∧ Aside0 (kq ≤ k) ∧ Aside0 (Kd.R k28 28 w' w.heap.size (fun k_ => (w.heap.size ≤ k_)) u282002 x282002_1) ∧ Aside0 (w'.heap[gb274]? = some (.cells #[.int .i64 a0_0, .int .i64 a0_1, (.slice A0_2 l0_2.length c0_2), (.slice A0_3 l0_3.length c0_3), (.slice A0_4 l0_4.length c0_4)] 42 (0, 0))) ∧ Aside0 (w'.heap[gb275]? = some (.cells #[.string (⟨#[]⟩ : ByteArray), .string (⟨#[]⟩ : ByteArray), (.slice none 0 0), (.slice none 0 0)] 46 (0, 0))) ∧ Aside0 (w'.heap[gb281]? = some (.cells #[.string t276, .string (strOfNums y278), u282002, (.slice none 0 0)] 46 (0, 0))) ∧ Aside0 (Below w.heap.size w w'))
 case atStart => exact ⟨(0), (([] : List (S28))), (.slice none 0 0), rf_, H', ⟨Nat.le_refl _⟩, ⟨by first | exact Kd.R_nil _ _ _ _ _ | exact Kd.N_nil _ _ _ _ _ | exact Kd.V_nil _ _ _ _ _ | exact Kd.Q_nil _ _ _ _ _ | exact Kd.S_nil _ _ _ _ _⟩, ⟨by (with_reducible repeat (first | refine blk_drewN ?_ _ | refine blk_drew ?_ | refine blk_alloc ?_ _)); refine blk_far ?_ NB274_281.out _; (with_reducible repeat (first | refine blk_drewN ?_ _ | refine blk_drew ?_ | refine blk_alloc ?_ _)); refine blk_far ?_ NB274_281.out _; (with_reducible repeat (first | refine blk_drewN ?_ _ | refine blk_drew ?_ | refine blk_alloc ?_ _)); refine blk_far ?_ NB274_281.out _; (with_reducible repeat (first | refine blk_drewN ?_ _ | refine blk_drew ?_ | refine blk_alloc ?_ _)); refine blk_far ?_ NB274_281.out _; (with_reducible repeat (first | refine blk_drewN ?_ _ | refine blk_drew ?_ | refine blk_alloc ?_ _)); exact BK274.out⟩, ⟨by (with_reducible repeat (first | refine blk_drewN ?_ _ | refine blk_drew ?_ | refine blk_alloc ?_ _)); refine blk_far ?_ NB275_281.out _; (with_reducible repeat (first | refine blk_drewN ?_ _ | refine blk_drew ?_ | refine blk_alloc ?_ _)); refine blk_far ?_ NB275_281.out _; (with_reducible repeat (first | refine blk_drewN ?_ _ | refine blk_drew ?_ | refine blk_alloc ?_ _)); refine blk_far ?_ NB275_281.out _; (with_reducible repeat (first | refine blk_drewN ?_ _ | refine blk_drew ?_ | refine blk_alloc ?_ _)); refine blk_far ?_ NB275_281.out _; (with_reducible repeat (first | refine blk_drewN ?_ _ | refine blk_drew ?_ | refine blk_alloc ?_ _)); exact BK275.out⟩, ⟨by (with_reducible repeat (first | refine blk_drewN ?_ _ | refine blk_drew ?_ | refine blk_alloc ?_ _)); refine blk_put (cs := #[.string t276, .string (strOfNums y278), .slice none 0 0, .slice none 0 0]) ?_ 3 _ rfl; (with_reducible repeat (first | refine blk_drewN ?_ _ | refine blk_drew ?_ | refine blk_alloc ?_ _)); refine blk_put (cs := #[.string t276, .string (strOfNums y278), .slice none 0 0, .slice none 0 0]) ?_ 2 _ rfl; (with_reducible repeat (first | refine blk_drewN ?_ _ | refine blk_drew ?_ | refine blk_alloc ?_ _)); refine blk_put (cs := #[.string t276, .string (⟨#[]⟩ : ByteArray), .slice none 0 0, .slice none 0 0]) ?_ 1 _ rfl; (with_reducible repeat (first | refine blk_drewN ?_ _ | refine blk_drew ?_ | refine blk_alloc ?_ _)); refine blk_put (cs := #[.string (⟨#[]⟩ : ByteArray), .string (⟨#[]⟩ : ByteArray), .slice none 0 0, .slice none 0 0]) ?_ 0 _ rfl; (with_reducible repeat (first | refine blk_drewN ?_ _ | refine blk_drew ?_ | refine blk_alloc ?_ _)); exact BK281.out⟩, ⟨bl3 HB GE274 GE275 GE281⟩⟩
 case round =>
  clear H'
  try clear hcv1
  try clear p2
  try clear p6
  try clear c8
  try clear hcv11
  try clear hcv12
  obtain ⟨x4_1, x282002_1, u282002, rfl, HA, HK1, HO_282002, BK274, BK275, BK281, HB⟩ := hrel
  cases gk with
  | zero => exact absurd HA.out (by simp [chancellaw5_Entity.l0])
  | succ k1 =>
   have H := HA.out
   clear HA
   simp only [chancellaw5_Entity.l0] at H
   have HC17 := aZ_ H
   clear H
   go_upto_region 3 with (fail)
   go_cut [27] (fun v27 wc => ∃ (kq : Nat) (x27_16 : Bool), v27 = .bool x27_16 ∧ Aside0 (chancellaw5_Entity.j1 kq x4_1 x27_16 a0_0 a0_1 l0_2 l0_3 l0_4 t276 (strOfNums y278) x282002_1 = some (r1, r2, r3, r4)) ∧ Aside0 (kq ≤ k1) ∧ Aside0 (Kd.R k28 28 wc w.heap.size (fun k_ => (w.heap.size ≤ k_)) u282002 x282002_1) ∧ Aside0 (wc.heap[gb274]? = some (.cells #[.int .i64 a0_0, .int .i64 a0_1, (.slice A0_2 l0_2.length c0_2), (.slice A0_3 l0_3.length c0_3), (.slice A0_4 l0_4.length c0_4)] 42 (0, 0))) ∧ Aside0 (wc.heap[gb275]? = some (.cells #[.string (⟨#[]⟩ : ByteArray), .string (⟨#[]⟩ : ByteArray), (.slice none 0 0), (.slice none 0 0)] 46 (0, 0))) ∧ Aside0 (wc.heap[gb281]? = some (.cells #[.string t276, .string (strOfNums y278), u282002, (.slice none 0 0)] 46 (0, 0))) ∧ Aside0 (Below w.heap.size w wc))
   case first =>
    have H := HC17.out
    clear HC17
    by_cases c18 : x4_1 < (l0_2.length : Int)
    ·
     rw [if_pos c18] at H
     have c18b0 : decide (x4_1 < (l0_2.length : Int)) = true := decide_eq_true c18
     clear c18
     (first | rw [c18b0] | (simp only [i64_w, i32_w]; rw [c18b0]) | skip)
     have H' := aZ_ H
     clear H
     have hnb19 := NB274_275.out
     have hnc19 := NB275_274.out
     have hnb20 := NB274_281.out
     have hnc20 := NB281_274.out
     obtain ⟨hcz21_0, hcz21_1, hcz21_2, hcz21_3, hcz21_4, hfz21_0, hfz21_1, hfz21_2, hfz21_3, hfz21_4⟩ := bc5 BK274
     go_wp2
     go_meet
     case rel => exact ⟨_, (decide (x4_1 < 3)), rf_, H', ⟨by have := HK1.out; first | omega | exact Nat.le_refl _⟩, ⟨kR HO_282002⟩, ⟨bk BK274⟩, ⟨bk BK275⟩, ⟨bk BK281⟩, ⟨bl3 HB GE274 GE275 GE281⟩⟩
    ·
     rw [if_neg c18] at H
     have c18b0 : decide (x4_1 < (l0_2.length : Int)) = false := decide_eq_false c18
     clear c18
     (first | rw [c18b0] | (simp only [i64_w, i32_w]; rw [c18b0]) | skip)
     have H' := aZ_ H
     clear H
     have hnb22 := NB274_275.out
     have hnc22 := NB275_274.out
     have hnb23 := NB274_281.out
     have hnc23 := NB281_274.out
     obtain ⟨hcz24_0, hcz24_1, hcz24_2, hcz24_3, hcz24_4, hfz24_0, hfz24_1, hfz24_2, hfz24_3, hfz24_4⟩ := bc5 BK274
     go_wp2
     go_meet
     case rel => exact ⟨_, (false), rf_, H', ⟨by have := HK1.out; first | omega | exact Nat.le_refl _⟩, ⟨kR HO_282002⟩, ⟨bk BK274⟩, ⟨bk BK275⟩, ⟨bk BK281⟩, ⟨bl3 HB GE274 GE275 GE281⟩⟩
   case rest =>
    clear HC17
    try clear c1
    try clear hcv1
    try clear c2
    try clear p2
    try clear p6
    try clear c8
    try clear hcv11
    try clear hcv12
    try clear c18
    try clear c18b0
    try clear c19
    try clear c20
    try clear c22
    try clear c23
    try clear hcz21_0
    try clear hcz21_1
    try clear hcz21_2
    try clear hcz21_3
    try clear hcz21_4
    try clear hcz24_0
    try clear hcz24_1
    try clear hcz24_2
    try clear hcz24_3
    try clear hcz24_4
    try clear hfz21_0
    try clear hfz21_1
    try clear hfz21_2
    try clear hfz21_3
    try clear hfz21_4
    try clear hfz24_0
    try clear hfz24_1
    try clear hfz24_2
    try clear hfz24_3
    try clear hfz24_4
    try clear p2
    try clear p6
    obtain ⟨kq, x27_16, rfl, HA, HJ16, HO_282002, BK274, BK275, BK281, HB⟩ := hcut
    cases kq with
    | zero => exact absurd HA.out (by simp [chancellaw5_Entity.j1])
    | succ kj16 =>
     have H := HA.out
     clear HA
     simp only [chancellaw5_Entity.j1] at H
     by_cases c25 : x27_16 = true
     ·
      subst c25
      have H1 : (if 0 ≤ x4_1 then (if x4_1 < (l0_2.length : Int) then ((chancellaw5_kind.f (rd l0_2 x4_1)).bind fun t283 => ((chancellaw5_within.f (wrap64 (Int.tdiv (rd l0_2 x4_1) 4)) 5).bind fun t285 => (if x282002_1.length < 4398046511104 then (chancellaw5_Entity.l0 kj16 (wrap64 (x4_1 + 1)) a0_0 a0_1 l0_2 l0_3 l0_4 t276 (strOfNums y278) (x282002_1 ++ [(⟨t283, strOfNums (([(wrap64 (97 + t285)) % 256] : List Int))⟩ : S28)])) else (none)))) else (none)) else (none)) = some (r1, r2, r3, r4) := by rw [if_pos rfl] at H; exact H
      clear H
      have H := H1
      clear H1
      by_cases c26 : 0 ≤ x4_1
      ·
       rw [if_pos c26] at H
       have c26b0 : decide (0 ≤ x4_1) = true := decide_eq_true c26
       clear c26
       by_cases c27 : x4_1 < (l0_2.length : Int)
       ·
        rw [if_pos c27] at H
        have c27b0 : decide (x4_1 < (l0_2.length : Int)) = true := decide_eq_true c27
        clear c27
        replace H := Option.bind_eq_some_iff.mp H
        obtain ⟨t283, A280, H⟩ := H
        replace H : ((chancellaw5_within.f (wrap64 (Int.tdiv (rd l0_2 x4_1) 4)) 5).bind fun t285 => (if x282002_1.length < 4398046511104 then (chancellaw5_Entity.l0 kj16 (wrap64 (x4_1 + 1)) a0_0 a0_1 l0_2 l0_3 l0_4 t276 (strOfNums y278) (x282002_1 ++ [(⟨t283, strOfNums (([(wrap64 (97 + t285)) % 256] : List Int))⟩ : S28)])) else (none))) = some (r1, r2, r3, r4) := H
        have A28 := aZ_ A280
        clear A280
        replace H := Option.bind_eq_some_iff.mp H
        obtain ⟨t285, A290, H⟩ := H
        replace H : (if x282002_1.length < 4398046511104 then (chancellaw5_Entity.l0 kj16 (wrap64 (x4_1 + 1)) a0_0 a0_1 l0_2 l0_3 l0_4 t276 (strOfNums y278) (x282002_1 ++ [(⟨t283, strOfNums (([(wrap64 (97 + t285)) % 256] : List Int))⟩ : S28)])) else (none)) = some (r1, r2, r3, r4) := H
        have A29 := aZ_ A290
        clear A290
        obtain ⟨y286, hy286⟩ : ∃ y_ : List Int, y_ = (([(wrap64 (97 + t285)) % 256] : List Int)) := ⟨_, rfl⟩
        replace H : (if x282002_1.length < 4398046511104 then (chancellaw5_Entity.l0 kj16 (wrap64 (x4_1 + 1)) a0_0 a0_1 l0_2 l0_3 l0_4 t276 (strOfNums y278) (x282002_1 ++ [(⟨t283, strOfNums y286⟩ : S28)])) else (none)) = some (r1, r2, r3, r4) := by first | (rw [hy286]; with_reducible exact H) | (have H2_ := (Option.bind_some _ _).symm.trans H; rw [hy286]; with_reducible exact H2_) | (have H2_ := (Option.bind_some _ _).symm.trans H; with_reducible exact H2_) | with_reducible exact H | (rw [hy286]; exact H) | exact H
        have Ny286 := aZ_ hy286
        clear hy286
        by_cases c30 : x282002_1.length < 4398046511104
        ·
         rw [if_pos c30] at H
         have LMc30 := aZ_ c30
         clear c30
         obtain ⟨y289, hy289⟩ : ∃ y_ : List (S28), y_ = (x282002_1 ++ [(⟨t283, strOfNums y286⟩ : S28)]) := ⟨_, rfl⟩
         replace H : (chancellaw5_Entity.l0 kj16 (wrap64 (x4_1 + 1)) a0_0 a0_1 l0_2 l0_3 l0_4 t276 (strOfNums y278) y289) = some (r1, r2, r3, r4) := by first | (rw [hy289]; with_reducible exact H) | (have H2_ := (Option.bind_some _ _).symm.trans H; rw [hy289]; with_reducible exact H2_) | (have H2_ := (Option.bind_some _ _).symm.trans H; with_reducible exact H2_) | with_reducible exact H | (rw [hy289]; exact H) | exact H
         have Ny289 := aZ_ hy289
         clear hy289
         have H' := aZ_ H
         clear H
         try go_wp2
         replace HO_282002 := aZ_ (Kd.R_drew HO_282002.out)
         replace BK274 := aZ_ (blk_drew BK274.out)
         replace BK275 := aZ_ (blk_drew BK275.out)
         replace BK281 := aZ_ (blk_drew BK281.out)
         replace HB := aZ_ (below_drew1 HB.out)
         have p282 : 0 ≤ (x4_1 : Int) := of_decide_eq_true asm_
         have q282 : x4_1 < (l0_2.length : Int) := of_decide_eq_true asm_
         obtain ⟨ad282, e282, hx282_0⟩ := Kd.at_int HR0_2.out x4_1 p282 q282
         have hw282_0 := hx282_0
         cases e282
         replace hx282_0 := (hbc HB.out hx282_0 :)
         replace p282 := eq_true p282
         replace q282 := eq_true q282
         have p284 : 0 ≤ (x4_1 : Int) := of_decide_eq_true asm_
         have q284 : x4_1 < (l0_2.length : Int) := of_decide_eq_true asm_
         obtain ⟨ad284, e284, hx284_0⟩ := Kd.at_int HR0_2.out x4_1 p284 q284
         have hw284_0 := hx284_0
         obtain rfl : ad282 = ad284 := (by injection e284)
         replace hx284_0 := (hbc HB.out hx284_0 :)
         replace p284 := eq_true p284
         replace q284 := eq_true q284
         refine start_ (n := 24) (S := fun w' => w'.cell? ⟨gb281, 0, none⟩ = some (.string t276) ∧ w'.cell? ⟨gb281, 1, none⟩ = some (.string (strOfNums y278)) ∧ w'.cell? ⟨gb281, 2, none⟩ = some (u282002) ∧ w'.cell? ⟨gb281, 3, none⟩ = some (.slice none 0 0) ∧ w'.cell? ⟨gb274, 0, none⟩ = some (.int .i64 a0_0) ∧ w'.cell? ⟨gb274, 1, none⟩ = some (.int .i64 a0_1) ∧ w'.cell? ⟨gb274, 2, none⟩ = some (.slice (some ad282) l0_2.length c0_2) ∧ w'.cell? ⟨gb274, 3, none⟩ = some (.slice A0_3 l0_3.length c0_3) ∧ w'.cell? ⟨gb274, 4, none⟩ = some (.slice A0_4 l0_4.length c0_4) ∧ w'.cell? (ad282.add (x4_1).toNat) = some (.int .i64 (rd l0_2 x4_1)) ∧ w'.cell? (ad282.add (x4_1).toNat) = some (.int .i64 (rd l0_2 x4_1))) (ds := [23]) #[false, false, false, false, false, false, false, false, false, false, false, false, false, false, false, false, false, false, false, false, false, false, false, false] (by kernel_rfl) rfl rfl ⟨(blk_cell BK281.out 0).trans rfl, (blk_cell BK281.out 1).trans rfl, (blk_cell BK281.out 2).trans rfl, (blk_cell BK281.out 3).trans rfl, (blk_cell BK274.out 0).trans rfl, (blk_cell BK274.out 1).trans rfl, (blk_cell BK274.out 2).trans rfl, (blk_cell BK274.out 3).trans rfl, (blk_cell BK274.out 4).trans rfl, ((hbc HB.out hw282_0 :)), ((hbc HB.out hw284_0 :))⟩ (fun hHeld => ?_); refine with_tabW chancellaw5_Entity.tab5 chancellaw5_Entity.bits5 (fun HT_ HW_ => ?_)
         generalize wc.drew = w31 at HO_282002 BK274 BK275 BK281 HB hx282_0 hx284_0 hHeld ⊢
         refine pS_ 0 30 (fa 24 1) HT_ ?_
         refine pS_ 2 32 (fa 24 5) HT_ ?_
         refine pS_ 4 34 (fa 24 21) HT_ ?_
         refine pS_ 8 38 (fa 24 277) HT_ ?_
         refine pS_ 10 40 (fa 24 1301) HT_ ?_
         refine tS_ 1 31 (fa 24 1303) HT_ HW_ hHeld ?_
         refine tS_ 3 33 (fa 24 1311) HT_ HW_ hHeld ?_
         refine pS_ 5 35 (fa 24 1343) HT_ ?_
         refine tS_ 6 36 (fa 24 1407) HT_ HW_ hHeld ?_
         refine tS_ 9 39 (fa 24 1919) HT_ HW_ hHeld ?_
         refine pS_ 11 41 (fa 24 3967) HT_ ?_
         refine tS_ 12 42 (fa 24 8063) HT_ HW_ hHeld ?_
         refine pS_ 13 43 (fa 24 16255) HT_ ?_
         refine one_ (i := 7) (N := some 37) #[true, true, true, true, true, true, true, true, true, true, true, true, true, true, false, false, false, false, false, false, false, false, false, false] rfl rfl (one_of HT_.out (by kernel_rfl)) (by decide) (fun K hK => ?_)
         refine goes_ Try.func84 (by kernel_rfl) rfl #[.int .i64 (rd l0_2 x4_1)] (by rfl) rfl rfl gm_ ?_
         with_reducible refine (chancellaw5_kind.calls (rd l0_2 x4_1) t283 _ A28.out).mono ?_
         rintro e w32 ⟨rfl, hb⟩
         refine ⟨_, rfl, ?_⟩
         replace HO_282002 := aZ_ (Kd.R_below (kR HO_282002) hb)
         replace BK274 := aZ_ (blk_below (g := gb274) (o := .cells #[.int .i64 a0_0, .int .i64 a0_1, .slice (some ad282) l0_2.length c0_2, .slice A0_3 l0_3.length c0_3, .slice A0_4 l0_4.length c0_4] 42 (0, 0)) (bk BK274) hb)
         replace BK275 := aZ_ (blk_below (g := gb275) (o := .cells #[.string (⟨#[]⟩ : ByteArray), .string (⟨#[]⟩ : ByteArray), .slice none 0 0, .slice none 0 0] 46 (0, 0)) (bk BK275) hb)
         replace BK281 := aZ_ (blk_below (g := gb281) (o := .cells #[.string t276, .string (strOfNums y278), u282002, .slice none 0 0] 46 (0, 0)) (bk BK281) hb)
         replace HB := aZ_ (below_step (bl3 HB GE274 GE275 GE281) hb)
         (try clear hb)
         (try clear hb2)
         (try clear hk)
         (try clear hi)
         refine hK.out _ _ ⟨(blk_cell BK281.out 0).trans rfl, (blk_cell BK281.out 1).trans rfl, (blk_cell BK281.out 2).trans rfl, (blk_cell BK281.out 3).trans rfl, (blk_cell BK274.out 0).trans rfl, (blk_cell BK274.out 1).trans rfl, (blk_cell BK274.out 2).trans rfl, (blk_cell BK274.out 3).trans rfl, (blk_cell BK274.out 4).trans rfl, ((hbc HB.out hw282_0 :)), ((hbc HB.out hw284_0 :))⟩ (fun hHeld => ?_)
         clear hK K
         refine norm_ (a' := ?_) ?_ ?_
         rotate_left
         ·
          show Act.put _ (some 37) _ = _
          simp only [Act.put, List.setIfInBounds_toArray, List.set_cons_zero, List.set_cons_succ, i64_w, i32_w]
          rfl
         refine one_ (i := 14) (N := some 44) #[true, true, true, true, true, true, true, true, true, true, true, true, true, true, true, false, false, false, false, false, false, false, false, false] rfl rfl (one_of HT_.out (by kernel_rfl)) (by decide) (fun K hK => ?_)
         refine goes_ Try.func85 (by kernel_rfl) rfl #[.int .i64 (wrap64 (Int.tdiv (rd l0_2 x4_1) 4)), .int .i64 5] (by rfl) rfl rfl gm_ ?_
         with_reducible refine (chancellaw5_within.calls (wrap64 (Int.tdiv (rd l0_2 x4_1) 4)) 5 t285 _ A29.out).mono ?_
         rintro e w' ⟨rfl, ⟨nd, rfl⟩⟩
         refine ⟨_, rfl, ?_⟩
         refine hK.out _ _ ⟨(blk_cell BK281.out 0).trans rfl, (blk_cell BK281.out 1).trans rfl, (blk_cell BK281.out 2).trans rfl, (blk_cell BK281.out 3).trans rfl, (blk_cell BK274.out 0).trans rfl, (blk_cell BK274.out 1).trans rfl, (blk_cell BK274.out 2).trans rfl, (blk_cell BK274.out 3).trans rfl, (blk_cell BK274.out 4).trans rfl, ((hbc HB.out hw282_0 :)), ((hbc HB.out hw284_0 :))⟩ (fun hHeld => ?_)
         clear hK K
         refine norm_ (a' := ?_) ?_ ?_
         rotate_left
         ·
          show Act.put _ (some 44) _ = _
          simp only [Act.put, List.setIfInBounds_toArray, List.set_cons_zero, List.set_cons_succ, i64_w, i32_w]
          rfl
         refine pS_ 15 45 (fa 24 65535) HT_ ?_
         refine pS_ 16 46 (fa 24 131071) HT_ ?_
         refine one_ (i := 17) (N := some 47) #[true, true, true, true, true, true, true, true, true, true, true, true, true, true, true, true, true, true, false, false, false, false, false, false] rfl rfl (one_of HT_.out (by kernel_rfl)) (by decide) (fun K hK => ?_)
         refine Kd.R_lit_step (Kd.int .u8) _ 5 ?hg (N := 47) ?hd (xs := ([(wrap64 (97 + t285)) % 256] : List Int)) (inner := [.int .u8 ((wrap64 (97 + t285)) % 256)]) (ok := fun _ => True) (okp := fun _ => True) ?hr ?hp (fun _ hk => hk) trivial (Below.refl _ _) (Nat.le_refl _) (by simp) ?_; (case hd => rfl); (case hg => rfl); (case hr => first | (go_simp; done) | (go_simp; rfl)); (case hp => exact (Reps.one (show Kd.M (Kd.int .u8) _ _ _ ((wrap64 (97 + t285)) % 256) [.int .u8 ((wrap64 (97 + t285)) % 256)] from rfl) (Reps.none _ _)))
         intro v287 w33 ho34 hb hg_ hnew_
         clear hg_ hnew_
         (first | rw [← Ny286.out] at ho34 | (simp only [Int.reduceToNat] at ho34; rw [← Ny286.out] at ho34))
         replace HO_282002 := aZ_ (Kd.R_below (kR HO_282002) hb)
         have HO288 := aZ_ (Kd.R_lower (Kd.R_newM (M := fun k_ => (w.heap.size ≤ k_)) ho34 (below_size (bl3 HB GE274 GE275 GE281)) (fun k_ h_ => h_)) (below_size (bl3 HB GE274 GE275 GE281)))
         replace BK274 := aZ_ (blk_below (g := gb274) (o := .cells #[.int .i64 a0_0, .int .i64 a0_1, .slice (some ad282) l0_2.length c0_2, .slice A0_3 l0_3.length c0_3, .slice A0_4 l0_4.length c0_4] 42 (0, 0)) (bk BK274) hb)
         replace BK275 := aZ_ (blk_below (g := gb275) (o := .cells #[.string (⟨#[]⟩ : ByteArray), .string (⟨#[]⟩ : ByteArray), .slice none 0 0, .slice none 0 0] 46 (0, 0)) (bk BK275) hb)
         replace BK281 := aZ_ (blk_below (g := gb281) (o := .cells #[.string t276, .string (strOfNums y278), u282002, .slice none 0 0] 46 (0, 0)) (bk BK281) hb)
         replace HB := aZ_ (below_step (bl3 HB GE274 GE275 GE281) hb)
         clear hb ho34
         refine hK.out _ _ ⟨(blk_cell BK281.out 0).trans rfl, (blk_cell BK281.out 1).trans rfl, (blk_cell BK281.out 2).trans rfl, (blk_cell BK281.out 3).trans rfl, (blk_cell BK274.out 0).trans rfl, (blk_cell BK274.out 1).trans rfl, (blk_cell BK274.out 2).trans rfl, (blk_cell BK274.out 3).trans rfl, (blk_cell BK274.out 4).trans rfl, ((hbc HB.out hw282_0 :)), ((hbc HB.out hw284_0 :))⟩ (fun hHeld => ?_)
         clear hK K
         refine norm_ (a' := ?_) ?_ ?_
         rotate_left
         ·
          show Act.put _ (some 47) _ = _
          simp only [Act.put, List.setIfInBounds_toArray, List.set_cons_zero, List.set_cons_succ, i64_w, i32_w]
          rfl
         refine one_ (i := 18) (N := some 48) #[true, true, true, true, true, true, true, true, true, true, true, true, true, true, true, true, true, true, true, false, false, false, false, false] rfl rfl (one_of HT_.out (by kernel_rfl)) (by decide) (fun K hK => ?_)
         have hcv35 := own_string (P := Try.prog) Try.underlying109 Try.underlying5 Try.underlying9 (Kd.own_of_R HO288.out)
         refine value_ (w1 := ?_) (v := ?_) (by rfl) rfl ?_ ?_
         rotate_left 2
         ·
          go_simp
          constructor
          ·
           rfl
          ·
           rfl
         clear hcv35
         refine hK.out _ _ ⟨(blk_cell BK281.out 0).trans rfl, (blk_cell BK281.out 1).trans rfl, (blk_cell BK281.out 2).trans rfl, (blk_cell BK281.out 3).trans rfl, (blk_cell BK274.out 0).trans rfl, (blk_cell BK274.out 1).trans rfl, (blk_cell BK274.out 2).trans rfl, (blk_cell BK274.out 3).trans rfl, (blk_cell BK274.out 4).trans rfl, ((hbc HB.out hw282_0 :)), ((hbc HB.out hw284_0 :))⟩ (fun hHeld => ?_)
         clear hK K
         refine norm_ (a' := ?_) ?_ ?_
         rotate_left
         ·
          show Act.put _ (some 48) _ = _
          simp only [Act.put, List.setIfInBounds_toArray, List.set_cons_zero, List.set_cons_succ, i64_w, i32_w]
          rfl
         refine pS_ 19 49 (fa 24 1048575) HT_ ?_
         refine one_ (i := 20) (N := some 50) #[true, true, true, true, true, true, true, true, true, true, true, true, true, true, true, true, true, true, true, true, true, false, false, false] rfl rfl (one_of HT_.out (by kernel_rfl)) (by decide) (fun K hK => ?_)
         refine value_ (w1 := ?_) (v := ?_) (by rfl) rfl ?_ ?_
         rotate_left 2
         ·
          go_simp
          constructor
          ·
           rfl
          ·
           rfl
         refine hK.out _ _ ⟨(blk_cell (blk_alloc BK281.out _) 0).trans rfl, (blk_cell (blk_alloc BK281.out _) 1).trans rfl, (blk_cell (blk_alloc BK281.out _) 2).trans rfl, (blk_cell (blk_alloc BK281.out _) 3).trans rfl, (blk_cell (blk_alloc BK274.out _) 0).trans rfl, (blk_cell (blk_alloc BK274.out _) 1).trans rfl, (blk_cell (blk_alloc BK274.out _) 2).trans rfl, (blk_cell (blk_alloc BK274.out _) 3).trans rfl, (blk_cell (blk_alloc BK274.out _) 4).trans rfl, (World.cell?_alloc_lt _ _ _ (World.block_lt_of_cell? _ _ (((hbc HB.out hw282_0 :))))).trans (((hbc HB.out hw282_0 :))), (World.cell?_alloc_lt _ _ _ (World.block_lt_of_cell? _ _ (((hbc HB.out hw284_0 :))))).trans (((hbc HB.out hw284_0 :)))⟩ (fun hHeld => ?_)
         clear hK K
         refine norm_ (a' := ?_) ?_ ?_
         rotate_left
         ·
          show Act.put _ (some 50) _ = _
          simp only [Act.put, List.setIfInBounds_toArray, List.set_cons_zero, List.set_cons_succ, i64_w, i32_w]
          rfl
         refine one_ (i := 21) (N := some 51) #[true, true, true, true, true, true, true, true, true, true, true, true, true, true, true, true, true, true, true, true, true, true, false, false] rfl rfl (one_of HT_.out (by kernel_rfl)) (by decide) (fun K hK => ?_)
         refine Kd.R_append_step k28 (w0 := w) w.heap.size (by rfl) (.tmp 31) (.tmp 50) 43 28 (.agg #[(.string ⟨#[]⟩), (.string ⟨#[]⟩)]) 32 rfl Try.underlying43 info28 rfl (by decide) (by omega) u282002 x282002_1 (⟨t283, strOfNums y286⟩ : S28) [.string t283, .string (strOfNums y286)] (fun k_ => (w.heap.size ≤ k_)) (fun _ => False) rfl rfl ?aP (fun _ hk => hk.elim) ?aF ?aO ?aB ?aS ?aL ?_
         (case aP => exact k28_mkM _ _ _ (⟨t283, strOfNums y286⟩ : S28))
         (case aB => exact (bl3 HB GE274 GE275 GE281))
         (case aF => exact (fun k_ hk => (Nat.le_trans (below_size (bl3 HB GE274 GE275 GE281)) hk)))
         (case aO => exact (kR HO_282002))
         (case aS => exact (below_size (bl3 HB GE274 GE275 GE281)))
         (case aL => have := LMc30.out; omega)
         intro v290 w36 ho hb hg hat
         rw [← Ny289.out] at ho
         replace BK274 := aZ_ (blk_grown (g := gb274) (o := .cells #[.int .i64 a0_0, .int .i64 a0_1, .slice (some ad282) l0_2.length c0_2, .slice A0_3 l0_3.length c0_3, .slice A0_4 l0_4.length c0_4] 42 (0, 0)) (bk BK274) hg (Kd.R_ne HO_282002.out BK274.out (by decide)))
         replace BK275 := aZ_ (blk_grown (g := gb275) (o := .cells #[.string (⟨#[]⟩ : ByteArray), .string (⟨#[]⟩ : ByteArray), .slice none 0 0, .slice none 0 0] 46 (0, 0)) (bk BK275) hg (Kd.R_ne HO_282002.out BK275.out (by decide)))
         replace BK281 := aZ_ (blk_grown (g := gb281) (o := .cells #[.string t276, .string (strOfNums y278), u282002, .slice none 0 0] 46 (0, 0)) (bk BK281) hg (Kd.R_ne HO_282002.out BK281.out (by decide)))
         replace HO288 := aZ_ (Kd.R_over' (kR HO288) (Kd.R_typed (kR HO_282002)) (by decide) hg)
         replace HB := aZ_ (hb)
         have HO291 := aZ_ (ho)
         clear HO_282002
         clear ho hb hg hat
         obtain ⟨Ao37, co37, eo37⟩ := Kd.R_slice HO291.out
         (first | subst eo37 | (injection eo37 with f1_ f2_ f3_; have f4_ := f1_.symm; have f5_ := f3_.symm; clear f1_ f2_ f3_; subst f4_; subst f5_))
         refine hK.out _ _ ⟨(blk_cell BK281.out 0).trans rfl, (blk_cell BK281.out 1).trans rfl, (blk_cell BK281.out 2).trans rfl, (blk_cell BK281.out 3).trans rfl, (blk_cell BK274.out 0).trans rfl, (blk_cell BK274.out 1).trans rfl, (blk_cell BK274.out 2).trans rfl, (blk_cell BK274.out 3).trans rfl, (blk_cell BK274.out 4).trans rfl, ((hbc HB.out hw282_0 :)), ((hbc HB.out hw284_0 :))⟩ (fun hHeld => ?_)
         clear hK K
         refine norm_ (a' := ?_) ?_ ?_
         rotate_left
         ·
          show Act.put _ (some 51) _ = _
          simp only [Act.put, List.setIfInBounds_toArray, List.set_cons_zero, List.set_cons_succ, i64_w, i32_w]
          rfl
         refine pS_ 22 52 (fa 24 8388607) HT_ ?_
         refine last_ (i := 23) (N := none) #[true, true, true, true, true, true, true, true, true, true, true, true, true, true, true, true, true, true, true, true, true, true, true, true] rfl rfl (one_of HT_.out (by kernel_rfl)) (by decide) (fun K hK => ?_)
         have hs38 : w36.cell? ⟨gb281, 2, none⟩ = some (u282002) := (blk_cell BK281.out 2).trans rfl
         have hfs38 := blk_frozen BK281.out 2
         have hns38_0 := NB274_281.out
         have hns38_1 := NB275_281.out
         have hms38_0 := NB281_274.out
         have hms38_1 := NB281_275.out
         refine skip_ (w1 := ?_) (by rfl) rfl ?_ ?_
         rotate_left
         ·
          go_simp
          rfl
         refine hK.out _ _ ?_
         clear hK K
         refine done_ (done_of HT_.out (by kernel_rfl)) ?_
         try go_wp2
         go_roundg kj16
         case measure => have := HK1.out; have := HJ16.out; omega
         case rel => exact ⟨(wrap64 (x4_1 + 1)), (y289), (.slice Ao37 y289.length co37), rf_, H', ⟨by have := HK1.out; have := HJ16.out; omega⟩, ⟨by (with_reducible repeat (first | apply Kd.R_alloc | apply Kd.R_drewN | apply Kd.R_drew)); exact Kd.R_mono (Kd.R_far (p := ⟨gb281, 2, none⟩) (Kd.R_types HO291.out BK281.out (by decide)) (fun _ hk => hk.2) (.slice Ao37 y289.length co37)) (fun _ hk => hk.1)⟩, ⟨by (with_reducible repeat (first | refine blk_drewN ?_ _ | refine blk_drew ?_ | refine blk_alloc ?_ _)); refine blk_far ?_ NB274_281.out _; (with_reducible repeat (first | refine blk_drewN ?_ _ | refine blk_drew ?_ | refine blk_alloc ?_ _)); exact BK274.out⟩, ⟨by (with_reducible repeat (first | refine blk_drewN ?_ _ | refine blk_drew ?_ | refine blk_alloc ?_ _)); refine blk_far ?_ NB275_281.out _; (with_reducible repeat (first | refine blk_drewN ?_ _ | refine blk_drew ?_ | refine blk_alloc ?_ _)); exact BK275.out⟩, ⟨by (with_reducible repeat (first | refine blk_drewN ?_ _ | refine blk_drew ?_ | refine blk_alloc ?_ _)); refine blk_put (cs := #[.string t276, .string (strOfNums y278), u282002, .slice none 0 0]) ?_ 2 _ rfl; (with_reducible repeat (first | refine blk_drewN ?_ _ | refine blk_drew ?_ | refine blk_alloc ?_ _)); exact BK281.out⟩, ⟨bl3 HB GE274 GE275 GE281⟩⟩
        ·
         rw [if_neg c30] at H
         exact absurd H (by simp)
       ·
        rw [if_neg c27] at H
        exact absurd H (by simp)
      ·
       rw [if_neg c26] at H
       exact absurd H (by simp)
     ·
      replace c25 := Bool.eq_false_iff.mpr c25
      subst c25
      have H1 : (chancellaw5_Entity.l1 kj16 0 a0_0 a0_1 l0_2 l0_3 l0_4 t276 (strOfNums y278) x282002_1 ([] : List (S49))) = some (r1, r2, r3, r4) := by rw [if_neg (show ¬ (false = true) by decide)] at H; exact H
      clear H
      have H := H1
      clear H1
      have H' := aZ_ H
      clear H
      go_wp2
      go_loopg [5] kj16 (fun kq v5 w' => ∃ (x5_3 : Int) (x282003_3 : List (S49)) (u282003 : Value), v5 = .int .i64 x5_3 ∧ Aside0 (chancellaw5_Entity.l1 kq x5_3 a0_0 a0_1 l0_2 l0_3 l0_4 t276 (strOfNums y278) x282002_1 x282003_3 = some (r1, r2, r3, r4)) ∧ Aside0 (kq ≤ kj16) ∧ Aside0 (Kd.R k28 28 w' w.heap.size (fun k_ => (w.heap.size ≤ k_)) u282002 x282002_1) ∧ Aside0 (Kd.N k49 49 w' w.heap.size (fun k_ => (w.heap.size ≤ k_) ∧ some k_ ≠ (u282002 : Value).ownBlock ∧ k_ ≠ gb274 ∧ k_ ≠ gb275 ∧ k_ ≠ gb281) u282003 x282003_3) ∧ Aside0 (w'.heap[gb274]? = some (.cells #[.int .i64 a0_0, .int .i64 a0_1, (.slice A0_2 l0_2.length c0_2), (.slice A0_3 l0_3.length c0_3), (.slice A0_4 l0_4.length c0_4)] 42 (0, 0))) ∧ Aside0 (w'.heap[gb275]? = some (.cells #[.string (⟨#[]⟩ : ByteArray), .string (⟨#[]⟩ : ByteArray), (.slice none 0 0), (.slice none 0 0)] 46 (0, 0))) ∧ Aside0 (w'.heap[gb281]? = some (.cells #[.string t276, .string (strOfNums y278), u282002, u282003] 46 (0, 0))) ∧ Aside0 (Below w.heap.size w w'))
      case atStart => exact ⟨(0), (([] : List (S49))), (.slice none 0 0), rf_, H', ⟨Nat.le_refl _⟩, ⟨kR HO_282002⟩, ⟨by first | exact Kd.R_nil _ _ _ _ _ | exact Kd.N_nil _ _ _ _ _ | exact Kd.V_nil _ _ _ _ _ | exact Kd.Q_nil _ _ _ _ _ | exact Kd.S_nil _ _ _ _ _⟩, ⟨bk BK274⟩, ⟨bk BK275⟩, ⟨bk BK281⟩, ⟨bl3 HB GE274 GE275 GE281⟩⟩
      case round =>
       clear H'
       try clear c1
       try clear hcv1
       try clear c2
       try clear p2
       try clear q2
       try clear hx2
       try clear c3
       try clear hcv3
       try clear p6
       try clear c8
       try clear hcv11
       try clear hcv12
       try clear c18
       try clear c18b0
       try clear c19
       try clear c20
       try clear c22
       try clear c23
       try clear c25
       try clear c26
       try clear c26b0
       try clear c27
       try clear c27b0
       try clear p28
       try clear q28
       try clear hx28
       try clear c30
       try clear hcv35
       try clear hcz21_0
       try clear hcz21_1
       try clear hcz21_2
       try clear hcz21_3
       try clear hcz21_4
       try clear hcz24_0
       try clear hcz24_1
       try clear hcz24_2
       try clear hcz24_3
       try clear hcz24_4
       try clear hfz21_0
       try clear hfz21_1
       try clear hfz21_2
       try clear hfz21_3
       try clear hfz21_4
       try clear hfz24_0
       try clear hfz24_1
       try clear hfz24_2
       try clear hfz24_3
       try clear hfz24_4
       try clear hx282_0
       try clear hx284_0
       try clear p2
       try clear p282
       try clear p284
       try clear p6
       try clear q282
       try clear q284
       obtain ⟨x5_3, x282003_3, u282003, rfl, HA, HK3, HO_282002, HO_282003, BK274, BK275, BK281, HB⟩ := hrel
       cases gk with
       | zero => exact absurd HA.out (by simp [chancellaw5_Entity.l1])
       | succ k3 =>
        have H := HA.out
        clear HA
        simp only [chancellaw5_Entity.l1] at H
        have HC39 := aZ_ H
        clear H
        go_upto_region 7 with (fail)
        go_cut [68] (fun v68 wc => ∃ (kq : Nat) (x68_38 : Bool), v68 = .bool x68_38 ∧ Aside0 (chancellaw5_Entity.j3 kq x5_3 x68_38 a0_0 a0_1 l0_2 l0_3 l0_4 t276 (strOfNums y278) x282002_1 x282003_3 = some (r1, r2, r3, r4)) ∧ Aside0 (kq ≤ k3) ∧ Aside0 (Kd.R k28 28 wc w.heap.size (fun k_ => (w.heap.size ≤ k_)) u282002 x282002_1) ∧ Aside0 (Kd.N k49 49 wc w.heap.size (fun k_ => (w.heap.size ≤ k_) ∧ some k_ ≠ (u282002 : Value).ownBlock ∧ k_ ≠ gb274 ∧ k_ ≠ gb275 ∧ k_ ≠ gb281) u282003 x282003_3) ∧ Aside0 (wc.heap[gb274]? = some (.cells #[.int .i64 a0_0, .int .i64 a0_1, (.slice A0_2 l0_2.length c0_2), (.slice A0_3 l0_3.length c0_3), (.slice A0_4 l0_4.length c0_4)] 42 (0, 0))) ∧ Aside0 (wc.heap[gb275]? = some (.cells #[.string (⟨#[]⟩ : ByteArray), .string (⟨#[]⟩ : ByteArray), (.slice none 0 0), (.slice none 0 0)] 46 (0, 0))) ∧ Aside0 (wc.heap[gb281]? = some (.cells #[.string t276, .string (strOfNums y278), u282002, u282003] 46 (0, 0))) ∧ Aside0 (Below w.heap.size w wc))
        case first =>
         have H := HC39.out
         clear HC39
         by_cases c40 : x5_3 < (l0_3.length : Int)
         ·
          rw [if_pos c40] at H
          have c40b0 : decide (x5_3 < (l0_3.length : Int)) = true := decide_eq_true c40
          clear c40
          (first | rw [c40b0] | (simp only [i64_w, i32_w]; rw [c40b0]) | skip)
          by_cases c41 : x5_3 < (l0_4.length : Int)
          ·
           rw [if_pos c41] at H
           have c41b0 : decide (x5_3 < (l0_4.length : Int)) = true := decide_eq_true c41
           clear c41
           have H' := aZ_ H
           clear H
           have hnb42 := NB274_275.out
           have hnc42 := NB275_274.out
           have hnb43 := NB274_281.out
           have hnc43 := NB281_274.out
           obtain ⟨hcz44_0, hcz44_1, hcz44_2, hcz44_3, hcz44_4, hfz44_0, hfz44_1, hfz44_2, hfz44_3, hfz44_4⟩ := bc5 BK274
           go_wp2
           go_meet
           case rel => exact ⟨_, (decide (x5_3 < 3)), rf_, H', ⟨by have := HK1.out; have := HJ16.out; have := HK3.out; first | omega | exact Nat.le_refl _⟩, ⟨kR HO_282002⟩, ⟨kN HO_282003⟩, ⟨bk BK274⟩, ⟨bk BK275⟩, ⟨bk BK281⟩, ⟨bl3 HB GE274 GE275 GE281⟩⟩
          ·
           rw [if_neg c41] at H
           have c41b0 : decide (x5_3 < (l0_4.length : Int)) = false := decide_eq_false c41
           clear c41
           have H' := aZ_ H
           clear H
           have hnb45 := NB274_275.out
           have hnc45 := NB275_274.out
           have hnb46 := NB274_281.out
           have hnc46 := NB281_274.out
           obtain ⟨hcz47_0, hcz47_1, hcz47_2, hcz47_3, hcz47_4, hfz47_0, hfz47_1, hfz47_2, hfz47_3, hfz47_4⟩ := bc5 BK274
           go_wp2
           go_meet
           case rel => exact ⟨_, (false), rf_, H', ⟨by have := HK1.out; have := HJ16.out; have := HK3.out; first | omega | exact Nat.le_refl _⟩, ⟨kR HO_282002⟩, ⟨kN HO_282003⟩, ⟨bk BK274⟩, ⟨bk BK275⟩, ⟨bk BK281⟩, ⟨bl3 HB GE274 GE275 GE281⟩⟩
         ·
          rw [if_neg c40] at H
          have c40b0 : decide (x5_3 < (l0_3.length : Int)) = false := decide_eq_false c40
          clear c40
          (first | rw [c40b0] | (simp only [i64_w, i32_w]; rw [c40b0]) | skip)
          have H' := aZ_ H
          clear H
          have hnb48 := NB274_275.out
          have hnc48 := NB275_274.out
          have hnb49 := NB274_281.out
          have hnc49 := NB281_274.out
          obtain ⟨hcz50_0, hcz50_1, hcz50_2, hcz50_3, hcz50_4, hfz50_0, hfz50_1, hfz50_2, hfz50_3, hfz50_4⟩ := bc5 BK274
          go_wp2
          go_meet
          case rel => exact ⟨_, (false), rf_, H', ⟨by have := HK1.out; have := HJ16.out; have := HK3.out; first | omega | exact Nat.le_refl _⟩, ⟨kR HO_282002⟩, ⟨kN HO_282003⟩, ⟨bk BK274⟩, ⟨bk BK275⟩, ⟨bk BK281⟩, ⟨bl3 HB GE274 GE275 GE281⟩⟩
        case rest =>
         clear HC39
         try clear c1
         try clear hcv1
         try clear c2
         try clear p2
         try clear q2
         try clear hx2
         try clear c3
         try clear hcv3
         try clear c4
         try clear p6
         try clear c8
         try clear hcv11
         try clear hcv12
         try clear c18
         try clear c18b0
         try clear c19
         try clear c20
         try clear c22
         try clear c23
         try clear c25
         try clear c26
         try clear c26b0
         try clear c27
         try clear c27b0
         try clear p28
         try clear q28
         try clear hx28
         try clear c30
         try clear hcv35
         try clear c40
         try clear c40b0
         try clear c41
         try clear c41b0
         try clear c42
         try clear c43
         try clear c45
         try clear c46
         try clear c48
         try clear c49
         try clear hcz21_0
         try clear hcz21_1
         try clear hcz21_2
         try clear hcz21_3
         try clear hcz21_4
         try clear hcz24_0
         try clear hcz24_1
         try clear hcz24_2
         try clear hcz24_3
         try clear hcz24_4
         try clear hcz44_0
         try clear hcz44_1
         try clear hcz44_2
         try clear hcz44_3
         try clear hcz44_4
         try clear hcz47_0
         try clear hcz47_1
         try clear hcz47_2
         try clear hcz47_3
         try clear hcz47_4
         try clear hcz50_0
         try clear hcz50_1
         try clear hcz50_2
         try clear hcz50_3
         try clear hcz50_4
         try clear hfz21_0
         try clear hfz21_1
         try clear hfz21_2
         try clear hfz21_3
         try clear hfz21_4
         try clear hfz24_0
         try clear hfz24_1
         try clear hfz24_2
         try clear hfz24_3
         try clear hfz24_4
         try clear hfz44_0
         try clear hfz44_1
         try clear hfz44_2
         try clear hfz44_3
         try clear hfz44_4
         try clear hfz47_0
         try clear hfz47_1
         try clear hfz47_2
         try clear hfz47_3
         try clear hfz47_4
         try clear hfz50_0
         try clear hfz50_1
         try clear hfz50_2
         try clear hfz50_3
         try clear hfz50_4
         try clear hx282_0
         try clear hx284_0
         try clear p2
         try clear p28
         try clear p282
         try clear p284
         try clear p6
         try clear q2
         try clear q28
         try clear q282
         try clear q284
         obtain ⟨kq, x68_38, rfl, HA, HJ38, HO_282002, HO_282003, BK274, BK275, BK281, HB⟩ := hcut
         cases kq with
         | zero => exact absurd HA.out (by simp [chancellaw5_Entity.j3])
         | succ kj38 =>
          have H := HA.out
          clear HA
          simp only [chancellaw5_Entity.j3] at H
          by_cases c51 : x68_38 = true
          ·
           subst c51
           have H1 : (if 0 ≤ x5_3 then (if x5_3 < (l0_4.length : Int) then ((chancellaw3_Good.f kj38 ((rd_T25 l0_4 x5_3).f0) ((rd_T25 l0_4 x5_3).f1) ((rd_T25 l0_4 x5_3).f2) ((rd_T25 l0_4 x5_3).f3)).bind fun bt293 => (if (bt293.2.2.2.2.2.2.length : Int) > 3 then (if 3 ≤ (bt293.2.2.2.2.2.2.length : Int) then (if x5_3 < (l0_3.length : Int) then ((chancellaw5_name.f (rd l0_3 x5_3)).bind fun t307 => (if x282003_3.length < 1256584717458 then (chancellaw5_Entity.l1 kj38 (wrap64 (x5_3 + 1)) a0_0 a0_1 l0_2 l0_3 l0_4 t276 (strOfNums y278) x282002_1 (x282003_3 ++ [(⟨t307, (⟨bt293.1, bt293.2.1, bt293.2.2.1, bt293.2.2.2.1, (⟨bt293.2.2.2.2.1, bt293.2.2.2.2.2.1⟩ : S28), (bt293.2.2.2.2.2.2.take (3 : Int).toNat)⟩ : S31)⟩ : S49)])) else (none))) else (none)) else (none)) else (if x5_3 < (l0_3.length : Int) then ((chancellaw5_name.f (rd l0_3 x5_3)).bind fun t312 => (if x282003_3.length < 1256584717458 then (chancellaw5_Entity.l1 kj38 (wrap64 (x5_3 + 1)) a0_0 a0_1 l0_2 l0_3 l0_4 t276 (strOfNums y278) x282002_1 (x282003_3 ++ [(⟨t312, (⟨bt293.1, bt293.2.1, bt293.2.2.1, bt293.2.2.2.1, (⟨bt293.2.2.2.2.1, bt293.2.2.2.2.2.1⟩ : S28), bt293.2.2.2.2.2.2⟩ : S31)⟩ : S49)])) else (none))) else (none)))) else (none)) else (none)) = some (r1, r2, r3, r4) := by rw [if_pos rfl] at H; exact H
           clear H
           have H := H1
           clear H1
           by_cases c52 : 0 ≤ x5_3
           ·
            rw [if_pos c52] at H
            have c52b0 : decide (0 ≤ x5_3) = true := decide_eq_true c52
            clear c52
            by_cases c53 : x5_3 < (l0_4.length : Int)
            ·
             rw [if_pos c53] at H
             have c53b0 : decide (x5_3 < (l0_4.length : Int)) = true := decide_eq_true c53
             clear c53
             replace H := Option.bind_eq_some_iff.mp H
             obtain ⟨⟨t293, t294, t295, t296, t297, t298, t299⟩, A540, H⟩ := H
             replace H : (if (t299.length : Int) > 3 then (if 3 ≤ (t299.length : Int) then (if x5_3 < (l0_3.length : Int) then ((chancellaw5_name.f (rd l0_3 x5_3)).bind fun t307 => (if x282003_3.length < 1256584717458 then (chancellaw5_Entity.l1 kj38 (wrap64 (x5_3 + 1)) a0_0 a0_1 l0_2 l0_3 l0_4 t276 (strOfNums y278) x282002_1 (x282003_3 ++ [(⟨t307, (⟨t293, t294, t295, t296, (⟨t297, t298⟩ : S28), (t299.take (3 : Int).toNat)⟩ : S31)⟩ : S49)])) else (none))) else (none)) else (none)) else (if x5_3 < (l0_3.length : Int) then ((chancellaw5_name.f (rd l0_3 x5_3)).bind fun t312 => (if x282003_3.length < 1256584717458 then (chancellaw5_Entity.l1 kj38 (wrap64 (x5_3 + 1)) a0_0 a0_1 l0_2 l0_3 l0_4 t276 (strOfNums y278) x282002_1 (x282003_3 ++ [(⟨t312, (⟨t293, t294, t295, t296, (⟨t297, t298⟩ : S28), t299⟩ : S31)⟩ : S49)])) else (none))) else (none))) = some (r1, r2, r3, r4) := H
             have A54 := aZ_ A540
             clear A540
             by_cases c55 : (t299.length : Int) > 3
             ·
              rw [if_pos c55] at H
              have c55b0 : decide (3 < (t299.length : Int)) = true := decide_eq_true c55
              have c55b1 : decide (3 < t299.length) = true := decide_eq_true (by omega)
              clear c55
              by_cases c56 : 3 ≤ (t299.length : Int)
              ·
               rw [if_pos c56] at H
               have c56b0 := eq_true c56
               have c56b1 : decide (3 ≤ (t299.length : Int)) = true := decide_eq_true c56
               clear c56
               obtain ⟨y303, hy303⟩ : ∃ y_ : List (S31), y_ = (t299.take (3 : Int).toNat) := ⟨_, rfl⟩
               replace H : (if x5_3 < (l0_3.length : Int) then ((chancellaw5_name.f (rd l0_3 x5_3)).bind fun t307 => (if x282003_3.length < 1256584717458 then (chancellaw5_Entity.l1 kj38 (wrap64 (x5_3 + 1)) a0_0 a0_1 l0_2 l0_3 l0_4 t276 (strOfNums y278) x282002_1 (x282003_3 ++ [(⟨t307, (⟨t293, t294, t295, t296, (⟨t297, t298⟩ : S28), y303⟩ : S31)⟩ : S49)])) else (none))) else (none)) = some (r1, r2, r3, r4) := by first | (rw [hy303]; with_reducible exact H) | (have H2_ := (Option.bind_some _ _).symm.trans H; rw [hy303]; with_reducible exact H2_) | (have H2_ := (Option.bind_some _ _).symm.trans H; with_reducible exact H2_) | with_reducible exact H | (rw [hy303]; exact H) | exact H
               have Ny303 := aZ_ hy303
               clear hy303
               by_cases c57 : x5_3 < (l0_3.length : Int)
               ·
                rw [if_pos c57] at H
                have c57b0 : decide (x5_3 < (l0_3.length : Int)) = true := decide_eq_true c57
                clear c57
                replace H := Option.bind_eq_some_iff.mp H
                obtain ⟨t307, A580, H⟩ := H
                replace H : (if x282003_3.length < 1256584717458 then (chancellaw5_Entity.l1 kj38 (wrap64 (x5_3 + 1)) a0_0 a0_1 l0_2 l0_3 l0_4 t276 (strOfNums y278) x282002_1 (x282003_3 ++ [(⟨t307, (⟨t293, t294, t295, t296, (⟨t297, t298⟩ : S28), y303⟩ : S31)⟩ : S49)])) else (none)) = some (r1, r2, r3, r4) := H
                have A58 := aZ_ A580
                clear A580
                by_cases c59 : x282003_3.length < 1256584717458
                ·
                 rw [if_pos c59] at H
                 have LMc59 := aZ_ c59
                 clear c59
                 obtain ⟨y308, hy308⟩ : ∃ y_ : List (S49), y_ = (x282003_3 ++ [(⟨t307, (⟨t293, t294, t295, t296, (⟨t297, t298⟩ : S28), y303⟩ : S31)⟩ : S49)]) := ⟨_, rfl⟩
                 replace H : (chancellaw5_Entity.l1 kj38 (wrap64 (x5_3 + 1)) a0_0 a0_1 l0_2 l0_3 l0_4 t276 (strOfNums y278) x282002_1 y308) = some (r1, r2, r3, r4) := by first | (rw [hy308]; with_reducible exact H) | (have H2_ := (Option.bind_some _ _).symm.trans H; rw [hy308]; with_reducible exact H2_) | (have H2_ := (Option.bind_some _ _).symm.trans H; with_reducible exact H2_) | with_reducible exact H | (rw [hy308]; exact H) | exact H
                 have Ny308 := aZ_ hy308
                 clear hy308
                 have H' := aZ_ H
                 clear H
                 have hnb60 := NB274_275.out
                 have hnc60 := NB275_274.out
                 have hnb61 := NB274_281.out
                 have hnc61 := NB281_274.out
                 obtain ⟨hcz62_0, hcz62_1, hcz62_2, hcz62_3, hcz62_4, hfz62_0, hfz62_1, hfz62_2, hfz62_3, hfz62_4⟩ := bc5 BK274
                 have p292 : 0 ≤ (x5_3 : Int) := of_decide_eq_true asm_
                 have q292 : x5_3 < (l0_4.length : Int) := of_decide_eq_true asm_
                 obtain ⟨ad292, A292_2, c292_2, A292_3, c292_3, e292, hx292_0, hx292_1, hx292_2, hx292_3, hl292_2, hi292_2, hl292_3, hi292_3⟩ := at_T25 HR0_4.out x5_3 p292 q292
                 cases e292
                 replace hx292_0 := (hbc HB.out hx292_0 :)
                 replace hx292_1 := (hbc HB.out hx292_1 :)
                 replace hx292_2 := (hbc HB.out hx292_2 :)
                 replace hx292_3 := (hbc HB.out hx292_3 :)
                 have HR292_2 := aZ_ hi292_2
                 have HC292_2 := aZ_ hl292_2
                 clear hi292_2 hl292_2
                 have HR292_3 := aZ_ hi292_3
                 have HC292_3 := aZ_ hl292_3
                 clear hi292_3 hl292_3
                 replace p292 := eq_true p292
                 replace q292 := eq_true q292
                 try go_wp2_with (first | ((with_reducible refine gate_callee (f := 16) rfl ?_); refine goesL_ (some 76) rfl rfl Try.func16 (by kernel_rfl) rfl #[.agg #[.int .i64 ((rd_T25 l0_4 x5_3).f0), .int .i64 ((rd_T25 l0_4 x5_3).f1), .slice A292_2 ((rd_T25 l0_4 x5_3).f2).length c292_2, .slice A292_3 ((rd_T25 l0_4 x5_3).f3).length c292_3]] rfl gm_ ?_; (with_reducible refine (chancellaw3_Good.calls kj38 ((rd_T25 l0_4 x5_3).f0) ((rd_T25 l0_4 x5_3).f1) _ _ ((rd_T25 l0_4 x5_3).f2) _ _ ((rd_T25 l0_4 x5_3).f3) t293 t294 t295 t296 t297 t298 t299 _ ?side1 ?side2 ?side3 ?side4 A54.out).mono ?_); (case side1 => exact kC (Kd.C_below HR292_2.out HB.out)); (case side2 => exact HC292_2.out); (case side3 => exact kC (Kd.C_below HR292_3.out HB.out)); (case side4 => exact HC292_3.out); rintro e w63 ⟨v300, rfl, ho0, hb⟩; refine ⟨_, rfl, ?_⟩; have HO301 := aZ_ (Kd.N_lower (Kd.N_mono (ok' := fun k_ => (w.heap.size ≤ k_) ∧ some k_ ≠ (u282002 : Value).ownBlock ∧ some k_ ≠ (u282003 : Value).ownBlock ∧ k_ ≠ gb274 ∧ k_ ≠ gb275 ∧ k_ ≠ gb281) ho0 (fun k_ hk_ => ⟨(Nat.le_trans (below_size (bl3 HB GE274 GE275 GE281)) hk_), (Kd.fresh' (Kd.R_lt (kR HO_282002)) k_ hk_), (Kd.fresh' (Kd.N_lt (kN HO_282003)) k_ hk_), (Kd.freshB (g := gb274) (o := .cells #[.int .i64 a0_0, .int .i64 a0_1, .slice A0_2 l0_2.length c0_2, .slice A0_3 l0_3.length c0_3, .slice (some ad292) l0_4.length c0_4] 42 (0, 0)) (bk BK274) k_ hk_), (Kd.freshB (g := gb275) (o := .cells #[.string (⟨#[]⟩ : ByteArray), .string (⟨#[]⟩ : ByteArray), .slice none 0 0, .slice none 0 0] 46 (0, 0)) (bk BK275) k_ hk_), (Kd.freshB (g := gb281) (o := .cells #[.string t276, .string (strOfNums y278), u282002, u282003] 46 (0, 0)) (bk BK281) k_ hk_)⟩)) (below_size (bl3 HB GE274 GE275 GE281))); replace HO_282002 := aZ_ (Kd.R_below (kR HO_282002) hb); replace HO_282003 := aZ_ (Kd.N_elder' (kN HO_282003) (by first | exact Kd.N_base ho0 | exact Kd.R_base ho0) hb); replace BK274 := aZ_ (blk_below (g := gb274) (o := .cells #[.int .i64 a0_0, .int .i64 a0_1, .slice A0_2 l0_2.length c0_2, .slice A0_3 l0_3.length c0_3, .slice (some ad292) l0_4.length c0_4] 42 (0, 0)) (bk BK274) hb); replace BK275 := aZ_ (blk_below (g := gb275) (o := .cells #[.string (⟨#[]⟩ : ByteArray), .string (⟨#[]⟩ : ByteArray), .slice none 0 0, .slice none 0 0] 46 (0, 0)) (bk BK275) hb); replace BK281 := aZ_ (blk_below (g := gb281) (o := .cells #[.string t276, .string (strOfNums y278), u282002, u282003] 46 (0, 0)) (bk BK281) hb); replace HB := aZ_ (below_step (bl3 HB GE274 GE275 GE281) hb); (try clear hb); (try clear hb2); (try clear hk); (try clear hi); (try clear ho0)) | ((with_reducible refine gate_dst (N := 6) rfl ?_); (try (refine gate_guard (by rfl) ?_; dsimp only)); refine bxE 6 #[.int .i64 0, .bool false, .int .i64 0, .string (⟨#[]⟩ : ByteArray), .string (⟨#[]⟩ : ByteArray), .string (⟨#[]⟩ : ByteArray), .slice none 0 0] 31 ?_; intro gb302 hg w64 hbox hb; replace HO_282002 := aZ_ (Kd.R_below (kR HO_282002) hb); replace HO_282003 := aZ_ (Kd.N_below (Kd.N_elderB (kN HO_282003) gb302 (Nat.le_of_eq hg.symm)) hb); replace HO301 := aZ_ (Kd.N_below (Kd.N_elderB (kN HO301) gb302 (Nat.le_of_eq hg.symm)) hb); have BK302 := aZ_ (hbox); have GW302 := aZ_ ((by rw [hg]; exact (below_size (bl3 HB GE274 GE275 GE281)) : w.heap.size ≤ gb302)); have GE302 := aZ_ ((by rw [hg]; exact (below_size (bl3 HB GE274 GE275 GE281)) : w.heap.size ≤ gb302)); replace HB := aZ_ (below_step (bl3 HB GE274 GE275 GE281) hb); have NB274_302 := aZ_ ((by rw [hg]; exact Nat.ne_of_lt (blk_lt (g := gb274) (o := .cells #[.int .i64 a0_0, .int .i64 a0_1, .slice A0_2 l0_2.length c0_2, .slice A0_3 l0_3.length c0_3, .slice (some ad292) l0_4.length c0_4] 42 (0, 0)) (bk BK274)) : gb274 ≠ gb302)); have NB302_274 := aZ_ ((by rw [hg]; exact Nat.ne_of_gt (blk_lt (g := gb274) (o := .cells #[.int .i64 a0_0, .int .i64 a0_1, .slice A0_2 l0_2.length c0_2, .slice A0_3 l0_3.length c0_3, .slice (some ad292) l0_4.length c0_4] 42 (0, 0)) (bk BK274)) : gb302 ≠ gb274)); replace BK274 := aZ_ (blk_below (g := gb274) (o := .cells #[.int .i64 a0_0, .int .i64 a0_1, .slice A0_2 l0_2.length c0_2, .slice A0_3 l0_3.length c0_3, .slice (some ad292) l0_4.length c0_4] 42 (0, 0)) (bk BK274) hb); have NB275_302 := aZ_ ((by rw [hg]; exact Nat.ne_of_lt (blk_lt (g := gb275) (o := .cells #[.string (⟨#[]⟩ : ByteArray), .string (⟨#[]⟩ : ByteArray), .slice none 0 0, .slice none 0 0] 46 (0, 0)) (bk BK275)) : gb275 ≠ gb302)); have NB302_275 := aZ_ ((by rw [hg]; exact Nat.ne_of_gt (blk_lt (g := gb275) (o := .cells #[.string (⟨#[]⟩ : ByteArray), .string (⟨#[]⟩ : ByteArray), .slice none 0 0, .slice none 0 0] 46 (0, 0)) (bk BK275)) : gb302 ≠ gb275)); replace BK275 := aZ_ (blk_below (g := gb275) (o := .cells #[.string (⟨#[]⟩ : ByteArray), .string (⟨#[]⟩ : ByteArray), .slice none 0 0, .slice none 0 0] 46 (0, 0)) (bk BK275) hb); have NB281_302 := aZ_ ((by rw [hg]; exact Nat.ne_of_lt (blk_lt (g := gb281) (o := .cells #[.string t276, .string (strOfNums y278), u282002, u282003] 46 (0, 0)) (bk BK281)) : gb281 ≠ gb302)); have NB302_281 := aZ_ ((by rw [hg]; exact Nat.ne_of_gt (blk_lt (g := gb281) (o := .cells #[.string t276, .string (strOfNums y278), u282002, u282003] 46 (0, 0)) (bk BK281)) : gb302 ≠ gb281)); replace BK281 := aZ_ (blk_below (g := gb281) (o := .cells #[.string t276, .string (strOfNums y278), u282002, u282003] 46 (0, 0)) (bk BK281) hb); clear hb hbox hg; have hnb65 := NB302_274.out; have hnc65 := NB274_302.out; have hnb66 := NB302_275.out; have hnc66 := NB275_302.out; have hnb67 := NB302_281.out; have hnc67 := NB281_302.out; obtain ⟨hcz68_0, hcz68_1, hcz68_2, hcz68_3, hcz68_4, hcz68_5, hcz68_6, hfz68_0, hfz68_1, hfz68_2, hfz68_3, hfz68_4, hfz68_5, hfz68_6⟩ := bc7 BK302; obtain ⟨Ao69, co69, eo69⟩ := Kd.N_slice HO301.out; subst eo69) | ((with_reducible refine gate_store (t := 31) (p := 6) rfl ?_); refine store_event (t := 31) (p := 6) (v := ?vo_w70) (w1 := (((((((w64.setCell ⟨gb302, 0, none⟩ (.int .i64 t293)).setCell ⟨gb302, 1, none⟩ (.bool t294)).setCell ⟨gb302, 2, none⟩ (.int .i64 t295)).setCell ⟨gb302, 3, none⟩ (.string t296)).setCell ⟨gb302, 4, none⟩ (.string t297)).setCell ⟨gb302, 5, none⟩ (.string t298)).setCell ⟨gb302, 6, none⟩ (.slice Ao69 t299.length co69))) ?hg ?ho ?hn ?hr ?_; (case ho => rfl); (case hg => rfl); (case hn => rfl); (case hr => first | (go_simp; done) | (go_simp; rfl)); intro w70 hw; replace HO_282002 : Aside0 (Kd.R k28 28 w70 w.heap.size (fun k_ => (w.heap.size ≤ k_)) u282002 x282002_1) := ⟨(by rw [hw]; exact (by (with_reducible repeat (first | apply Kd.R_alloc | apply Kd.R_drewN | apply Kd.R_drew)); exact Kd.R_mono (Kd.R_far (p := ⟨gb302, 6, none⟩) (Kd.R_far (p := ⟨gb302, 5, none⟩) (Kd.R_far (p := ⟨gb302, 4, none⟩) (Kd.R_far (p := ⟨gb302, 3, none⟩) (Kd.R_far (p := ⟨gb302, 2, none⟩) (Kd.R_far (p := ⟨gb302, 1, none⟩) (Kd.R_far (p := ⟨gb302, 0, none⟩) (Kd.R_types HO_282002.out BK302.out (by decide)) (fun _ hk => hk.2) (.int .i64 t293)) (fun _ hk => hk.2) (.bool t294)) (fun _ hk => hk.2) (.int .i64 t295)) (fun _ hk => hk.2) (.string t296)) (fun _ hk => hk.2) (.string t297)) (fun _ hk => hk.2) (.string t298)) (fun _ hk => hk.2) (.slice Ao69 t299.length co69)) (fun _ hk => hk.1)))⟩; replace HO_282003 : Aside0 (Kd.N k49 49 w70 w.heap.size (fun k_ => (w.heap.size ≤ k_) ∧ some k_ ≠ (u282002 : Value).ownBlock ∧ some k_ ≠ (.slice Ao69 t299.length co69 : Value).ownBlock ∧ k_ ≠ gb274 ∧ k_ ≠ gb275 ∧ k_ ≠ gb281 ∧ k_ ≠ gb302) u282003 x282003_3) := ⟨(by rw [hw]; exact (by (with_reducible repeat (first | apply Kd.N_alloc | apply Kd.N_drewN | apply Kd.N_drew)); exact Kd.N_mono (Kd.N_far (p := ⟨gb302, 6, none⟩) (Kd.N_far (p := ⟨gb302, 5, none⟩) (Kd.N_far (p := ⟨gb302, 4, none⟩) (Kd.N_far (p := ⟨gb302, 3, none⟩) (Kd.N_far (p := ⟨gb302, 2, none⟩) (Kd.N_far (p := ⟨gb302, 1, none⟩) (Kd.N_far (p := ⟨gb302, 0, none⟩) (Kd.N_mono HO_282003.out (fun k_ hk => (⟨hk, hk.2⟩ : _ ∧ k_ ≠ gb302))) (fun _ hk => hk.2) (.int .i64 t293)) (fun _ hk => hk.2) (.bool t294)) (fun _ hk => hk.2) (.int .i64 t295)) (fun _ hk => hk.2) (.string t296)) (fun _ hk => hk.2) (.string t297)) (fun _ hk => hk.2) (.string t298)) (fun _ hk => hk.2) (.slice Ao69 t299.length co69)) (fun _ hk => ⟨hk.1.1.1.1, ⟨hk.1.1.1.2.1, ⟨hk.1.1.2, ⟨hk.1.1.1.2.2.1, ⟨hk.1.1.1.2.2.2.1, ⟨hk.1.1.1.2.2.2.2, hk.1.2⟩⟩⟩⟩⟩⟩)))⟩; replace HO301 : Aside0 (Kd.N k31 31 w70 w.heap.size (fun k_ => (w.heap.size ≤ k_) ∧ some k_ ≠ (u282002 : Value).ownBlock ∧ some k_ ≠ (u282003 : Value).ownBlock ∧ k_ ≠ gb274 ∧ k_ ≠ gb275 ∧ k_ ≠ gb281 ∧ k_ ≠ gb302) (.slice Ao69 t299.length co69) t299) := ⟨(by rw [hw]; exact (by (with_reducible repeat (first | apply Kd.N_alloc | apply Kd.N_drewN | apply Kd.N_drew)); exact Kd.N_mono (Kd.N_far (p := ⟨gb302, 6, none⟩) (Kd.N_far (p := ⟨gb302, 5, none⟩) (Kd.N_far (p := ⟨gb302, 4, none⟩) (Kd.N_far (p := ⟨gb302, 3, none⟩) (Kd.N_far (p := ⟨gb302, 2, none⟩) (Kd.N_far (p := ⟨gb302, 1, none⟩) (Kd.N_far (p := ⟨gb302, 0, none⟩) (Kd.N_mono HO301.out (fun k_ hk => (⟨hk, hk.2⟩ : _ ∧ k_ ≠ gb302))) (fun _ hk => hk.2) (.int .i64 t293)) (fun _ hk => hk.2) (.bool t294)) (fun _ hk => hk.2) (.int .i64 t295)) (fun _ hk => hk.2) (.string t296)) (fun _ hk => hk.2) (.string t297)) (fun _ hk => hk.2) (.string t298)) (fun _ hk => hk.2) (.slice Ao69 t299.length co69)) (fun _ hk => ⟨hk.1.1.1, ⟨hk.1.1.2.1, ⟨hk.1.1.2.2.1, ⟨hk.1.1.2.2.2.1, ⟨hk.1.1.2.2.2.2.1, ⟨hk.1.1.2.2.2.2.2, hk.1.2⟩⟩⟩⟩⟩⟩)))⟩; replace BK274 : Aside0 (w70.heap[gb274]? = some (.cells #[.int .i64 a0_0, .int .i64 a0_1, .slice A0_2 l0_2.length c0_2, .slice A0_3 l0_3.length c0_3, .slice (some ad292) l0_4.length c0_4] 42 (0, 0))) := ⟨(by rw [hw]; exact (by (with_reducible repeat (first | refine blk_drewN ?_ _ | refine blk_drew ?_ | refine blk_alloc ?_ _)); refine blk_far ?_ NB274_302.out _; (with_reducible repeat (first | refine blk_drewN ?_ _ | refine blk_drew ?_ | refine blk_alloc ?_ _)); refine blk_far ?_ NB274_302.out _; (with_reducible repeat (first | refine blk_drewN ?_ _ | refine blk_drew ?_ | refine blk_alloc ?_ _)); refine blk_far ?_ NB274_302.out _; (with_reducible repeat (first | refine blk_drewN ?_ _ | refine blk_drew ?_ | refine blk_alloc ?_ _)); refine blk_far ?_ NB274_302.out _; (with_reducible repeat (first | refine blk_drewN ?_ _ | refine blk_drew ?_ | refine blk_alloc ?_ _)); refine blk_far ?_ NB274_302.out _; (with_reducible repeat (first | refine blk_drewN ?_ _ | refine blk_drew ?_ | refine blk_alloc ?_ _)); refine blk_far ?_ NB274_302.out _; (with_reducible repeat (first | refine blk_drewN ?_ _ | refine blk_drew ?_ | refine blk_alloc ?_ _)); refine blk_far ?_ NB274_302.out _; (with_reducible repeat (first | refine blk_drewN ?_ _ | refine blk_drew ?_ | refine blk_alloc ?_ _)); exact BK274.out))⟩; replace BK275 : Aside0 (w70.heap[gb275]? = some (.cells #[.string (⟨#[]⟩ : ByteArray), .string (⟨#[]⟩ : ByteArray), .slice none 0 0, .slice none 0 0] 46 (0, 0))) := ⟨(by rw [hw]; exact (by (with_reducible repeat (first | refine blk_drewN ?_ _ | refine blk_drew ?_ | refine blk_alloc ?_ _)); refine blk_far ?_ NB275_302.out _; (with_reducible repeat (first | refine blk_drewN ?_ _ | refine blk_drew ?_ | refine blk_alloc ?_ _)); refine blk_far ?_ NB275_302.out _; (with_reducible repeat (first | refine blk_drewN ?_ _ | refine blk_drew ?_ | refine blk_alloc ?_ _)); refine blk_far ?_ NB275_302.out _; (with_reducible repeat (first | refine blk_drewN ?_ _ | refine blk_drew ?_ | refine blk_alloc ?_ _)); refine blk_far ?_ NB275_302.out _; (with_reducible repeat (first | refine blk_drewN ?_ _ | refine blk_drew ?_ | refine blk_alloc ?_ _)); refine blk_far ?_ NB275_302.out _; (with_reducible repeat (first | refine blk_drewN ?_ _ | refine blk_drew ?_ | refine blk_alloc ?_ _)); refine blk_far ?_ NB275_302.out _; (with_reducible repeat (first | refine blk_drewN ?_ _ | refine blk_drew ?_ | refine blk_alloc ?_ _)); refine blk_far ?_ NB275_302.out _; (with_reducible repeat (first | refine blk_drewN ?_ _ | refine blk_drew ?_ | refine blk_alloc ?_ _)); exact BK275.out))⟩; replace BK281 : Aside0 (w70.heap[gb281]? = some (.cells #[.string t276, .string (strOfNums y278), u282002, u282003] 46 (0, 0))) := ⟨(by rw [hw]; exact (by (with_reducible repeat (first | refine blk_drewN ?_ _ | refine blk_drew ?_ | refine blk_alloc ?_ _)); refine blk_far ?_ NB281_302.out _; (with_reducible repeat (first | refine blk_drewN ?_ _ | refine blk_drew ?_ | refine blk_alloc ?_ _)); refine blk_far ?_ NB281_302.out _; (with_reducible repeat (first | refine blk_drewN ?_ _ | refine blk_drew ?_ | refine blk_alloc ?_ _)); refine blk_far ?_ NB281_302.out _; (with_reducible repeat (first | refine blk_drewN ?_ _ | refine blk_drew ?_ | refine blk_alloc ?_ _)); refine blk_far ?_ NB281_302.out _; (with_reducible repeat (first | refine blk_drewN ?_ _ | refine blk_drew ?_ | refine blk_alloc ?_ _)); refine blk_far ?_ NB281_302.out _; (with_reducible repeat (first | refine blk_drewN ?_ _ | refine blk_drew ?_ | refine blk_alloc ?_ _)); refine blk_far ?_ NB281_302.out _; (with_reducible repeat (first | refine blk_drewN ?_ _ | refine blk_drew ?_ | refine blk_alloc ?_ _)); refine blk_far ?_ NB281_302.out _; (with_reducible repeat (first | refine blk_drewN ?_ _ | refine blk_drew ?_ | refine blk_alloc ?_ _)); exact BK281.out))⟩; replace BK302 : Aside0 (w70.heap[gb302]? = some (.cells #[.int .i64 t293, .bool t294, .int .i64 t295, .string t296, .string t297, .string t298, .slice Ao69 t299.length co69] 31 (0, 0))) := ⟨(by rw [hw]; exact (by (with_reducible repeat (first | refine blk_drewN ?_ _ | refine blk_drew ?_ | refine blk_alloc ?_ _)); refine blk_put (cs := #[.int .i64 t293, .bool t294, .int .i64 t295, .string t296, .string t297, .string t298, .slice none 0 0]) ?_ 6 _ rfl; (with_reducible repeat (first | refine blk_drewN ?_ _ | refine blk_drew ?_ | refine blk_alloc ?_ _)); refine blk_put (cs := #[.int .i64 t293, .bool t294, .int .i64 t295, .string t296, .string t297, .string (⟨#[]⟩ : ByteArray), .slice none 0 0]) ?_ 5 _ rfl; (with_reducible repeat (first | refine blk_drewN ?_ _ | refine blk_drew ?_ | refine blk_alloc ?_ _)); refine blk_put (cs := #[.int .i64 t293, .bool t294, .int .i64 t295, .string t296, .string (⟨#[]⟩ : ByteArray), .string (⟨#[]⟩ : ByteArray), .slice none 0 0]) ?_ 4 _ rfl; (with_reducible repeat (first | refine blk_drewN ?_ _ | refine blk_drew ?_ | refine blk_alloc ?_ _)); refine blk_put (cs := #[.int .i64 t293, .bool t294, .int .i64 t295, .string (⟨#[]⟩ : ByteArray), .string (⟨#[]⟩ : ByteArray), .string (⟨#[]⟩ : ByteArray), .slice none 0 0]) ?_ 3 _ rfl; (with_reducible repeat (first | refine blk_drewN ?_ _ | refine blk_drew ?_ | refine blk_alloc ?_ _)); refine blk_put (cs := #[.int .i64 t293, .bool t294, .int .i64 0, .string (⟨#[]⟩ : ByteArray), .string (⟨#[]⟩ : ByteArray), .string (⟨#[]⟩ : ByteArray), .slice none 0 0]) ?_ 2 _ rfl; (with_reducible repeat (first | refine blk_drewN ?_ _ | refine blk_drew ?_ | refine blk_alloc ?_ _)); refine blk_put (cs := #[.int .i64 t293, .bool false, .int .i64 0, .string (⟨#[]⟩ : ByteArray), .string (⟨#[]⟩ : ByteArray), .string (⟨#[]⟩ : ByteArray), .slice none 0 0]) ?_ 1 _ rfl; (with_reducible repeat (first | refine blk_drewN ?_ _ | refine blk_drew ?_ | refine blk_alloc ?_ _)); refine blk_put (cs := #[.int .i64 0, .bool false, .int .i64 0, .string (⟨#[]⟩ : ByteArray), .string (⟨#[]⟩ : ByteArray), .string (⟨#[]⟩ : ByteArray), .slice none 0 0]) ?_ 0 _ rfl; (with_reducible repeat (first | refine blk_drewN ?_ _ | refine blk_drew ?_ | refine blk_alloc ?_ _)); exact BK302.out))⟩; replace HB : Aside0 (Below w.heap.size w w70) := ⟨(by rw [hw]; exact (bl4 HB GE274 GE275 GE281 GE302))⟩; clear hw; obtain ⟨hcz71_0, hcz71_1, hcz71_2, hcz71_3, hcz71_4, hcz71_5, hcz71_6, hfz71_0, hfz71_1, hfz71_2, hfz71_3, hfz71_4, hfz71_5, hfz71_6⟩ := bc7 BK302; have q72 : (3 : Int) ≤ ((t299.length : Int) : Int) := of_decide_eq_true asm_; obtain ⟨i072, hi072, _, hsz72, _⟩ := info_parts info31; have hcut72 := cut_to (P := Try.prog) 29 31 .i64 Try.underlying29 hi072 Ao69 t299.length co69 3 (by omega) q72 (Kd.N_reads' HO301.out).2.1; have hr72 := Kd.N_take (m := (3 : Int).toNat) HO301.out (by omega); have hy72 : y303.length = (3 : Int).toNat := (by rw [Ny303.out, List.length_take]; omega); rw [← Ny303.out] at hr72; rw [← hy72] at hr72 hcut72; clear hy72 hi072 hsz72 HO301; have HO305 := aZ_ hr72; clear hr72; replace q72 := eq_true q72))
                 have n0_ : Aside0 (Kd.R k28 28 (w70.setCell ⟨gb302, 6, none⟩ (.slice Ao69 y303.length co69)) w.heap.size (fun k_ => (w.heap.size ≤ k_)) u282002 x282002_1) := ⟨by (with_reducible repeat (first | apply Kd.R_alloc | apply Kd.R_drewN | apply Kd.R_drew)); exact Kd.R_mono (Kd.R_far (p := ⟨gb302, 6, none⟩) (Kd.R_types HO_282002.out BK302.out (by decide)) (fun _ hk => hk.2) (.slice Ao69 y303.length co69)) (fun _ hk => hk.1)⟩
                 have n1_ : Aside0 (Kd.N k49 49 (w70.setCell ⟨gb302, 6, none⟩ (.slice Ao69 y303.length co69)) w.heap.size (fun k_ => (w.heap.size ≤ k_) ∧ some k_ ≠ (u282002 : Value).ownBlock ∧ some k_ ≠ (.slice Ao69 y303.length co69 : Value).ownBlock ∧ k_ ≠ gb274 ∧ k_ ≠ gb275 ∧ k_ ≠ gb281 ∧ k_ ≠ gb302) u282003 x282003_3) := ⟨by (with_reducible repeat (first | apply Kd.N_alloc | apply Kd.N_drewN | apply Kd.N_drew)); exact Kd.N_mono (Kd.N_far (p := ⟨gb302, 6, none⟩) (Kd.N_mono HO_282003.out (fun k_ hk => (⟨hk, hk.2.2.2.2.2.2⟩ : _ ∧ k_ ≠ gb302))) (fun _ hk => hk.2) (.slice Ao69 y303.length co69)) (fun _ hk => by first | exact ⟨hk.1.1, ⟨hk.1.2.1, ⟨hk.1.2.2.1, ⟨hk.1.2.2.2.1, ⟨hk.1.2.2.2.2.1, ⟨hk.1.2.2.2.2.2.1, hk.1.2.2.2.2.2.2⟩⟩⟩⟩⟩⟩ | (simp only [own_nf] at hk ⊢; exact ⟨hk.1.1, ⟨hk.1.2.1, ⟨hk.1.2.2.1, ⟨hk.1.2.2.2.1, ⟨hk.1.2.2.2.2.1, ⟨hk.1.2.2.2.2.2.1, hk.1.2.2.2.2.2.2⟩⟩⟩⟩⟩⟩))⟩
                 have n2_ : Aside0 (Kd.N k31 31 (w70.setCell ⟨gb302, 6, none⟩ (.slice Ao69 y303.length co69)) w.heap.size (fun k_ => (w.heap.size ≤ k_) ∧ some k_ ≠ (u282002 : Value).ownBlock ∧ some k_ ≠ (u282003 : Value).ownBlock ∧ k_ ≠ gb274 ∧ k_ ≠ gb275 ∧ k_ ≠ gb281 ∧ k_ ≠ gb302) (.slice Ao69 y303.length co69) y303) := ⟨by (with_reducible repeat (first | apply Kd.N_alloc | apply Kd.N_drewN | apply Kd.N_drew)); exact Kd.N_mono (Kd.N_far (p := ⟨gb302, 6, none⟩) (Kd.N_mono HO305.out (fun k_ hk => (⟨hk, hk.2.2.2.2.2.2⟩ : _ ∧ k_ ≠ gb302))) (fun _ hk => hk.2) (.slice Ao69 y303.length co69)) (fun _ hk => by first | exact ⟨hk.1.1, ⟨hk.1.2.1, ⟨hk.1.2.2.1, ⟨hk.1.2.2.2.1, ⟨hk.1.2.2.2.2.1, ⟨hk.1.2.2.2.2.2.1, hk.1.2.2.2.2.2.2⟩⟩⟩⟩⟩⟩ | (simp only [own_nf] at hk ⊢; exact ⟨hk.1.1, ⟨hk.1.2.1, ⟨hk.1.2.2.1, ⟨hk.1.2.2.2.1, ⟨hk.1.2.2.2.2.1, ⟨hk.1.2.2.2.2.2.1, hk.1.2.2.2.2.2.2⟩⟩⟩⟩⟩⟩))⟩
                 have n3_ : Aside0 ((w70.setCell ⟨gb302, 6, none⟩ (.slice Ao69 y303.length co69)).heap[gb274]? = some (.cells #[.int .i64 a0_0, .int .i64 a0_1, .slice A0_2 l0_2.length c0_2, .slice A0_3 l0_3.length c0_3, .slice (some ad292) l0_4.length c0_4] 42 (0, 0))) := ⟨by (with_reducible repeat (first | refine blk_drewN ?_ _ | refine blk_drew ?_ | refine blk_alloc ?_ _)); refine blk_far ?_ NB274_302.out _; (with_reducible repeat (first | refine blk_drewN ?_ _ | refine blk_drew ?_ | refine blk_alloc ?_ _)); exact BK274.out⟩
                 have n4_ : Aside0 ((w70.setCell ⟨gb302, 6, none⟩ (.slice Ao69 y303.length co69)).heap[gb275]? = some (.cells #[.string (⟨#[]⟩ : ByteArray), .string (⟨#[]⟩ : ByteArray), .slice none 0 0, .slice none 0 0] 46 (0, 0))) := ⟨by (with_reducible repeat (first | refine blk_drewN ?_ _ | refine blk_drew ?_ | refine blk_alloc ?_ _)); refine blk_far ?_ NB275_302.out _; (with_reducible repeat (first | refine blk_drewN ?_ _ | refine blk_drew ?_ | refine blk_alloc ?_ _)); exact BK275.out⟩
                 have n5_ : Aside0 ((w70.setCell ⟨gb302, 6, none⟩ (.slice Ao69 y303.length co69)).heap[gb281]? = some (.cells #[.string t276, .string (strOfNums y278), u282002, u282003] 46 (0, 0))) := ⟨by (with_reducible repeat (first | refine blk_drewN ?_ _ | refine blk_drew ?_ | refine blk_alloc ?_ _)); refine blk_far ?_ NB281_302.out _; (with_reducible repeat (first | refine blk_drewN ?_ _ | refine blk_drew ?_ | refine blk_alloc ?_ _)); exact BK281.out⟩
                 have n6_ : Aside0 ((w70.setCell ⟨gb302, 6, none⟩ (.slice Ao69 y303.length co69)).heap[gb302]? = some (.cells #[.int .i64 t293, .bool t294, .int .i64 t295, .string t296, .string t297, .string t298, .slice Ao69 y303.length co69] 31 (0, 0))) := ⟨by (with_reducible repeat (first | refine blk_drewN ?_ _ | refine blk_drew ?_ | refine blk_alloc ?_ _)); refine blk_put (cs := #[.int .i64 t293, .bool t294, .int .i64 t295, .string t296, .string t297, .string t298, .slice Ao69 t299.length co69]) ?_ 6 _ rfl; (with_reducible repeat (first | refine blk_drewN ?_ _ | refine blk_drew ?_ | refine blk_alloc ?_ _)); exact BK302.out⟩
                 have n7_ : Aside0 (Below w.heap.size w (w70.setCell ⟨gb302, 6, none⟩ (.slice Ao69 y303.length co69))) := ⟨bl4 HB GE274 GE275 GE281 GE302⟩
                 (try clear HO_282002)
                 (try clear HO_282003)
                 (try clear HO305)
                 (try clear BK274)
                 (try clear BK275)
                 (try clear BK281)
                 (try clear BK302)
                 (try clear HB)
                 generalize (w70.setCell ⟨gb302, 6, none⟩ (.slice Ao69 y303.length co69)) = w73 at n0_ n1_ n2_ n3_ n4_ n5_ n6_ n7_ ⊢
                 have HO_282002 := n0_
                 have HO_282003 := n1_
                 have HO305 := n2_
                 have BK274 := n3_
                 have BK275 := n4_
                 have BK281 := n5_
                 have BK302 := n6_
                 have HB := n7_
                 clear n0_ n1_ n2_ n3_ n4_ n5_ n6_ n7_
                 replace HO_282002 := aZ_ (Kd.R_drew HO_282002.out)
                 replace HO_282003 := aZ_ (Kd.N_drew HO_282003.out)
                 replace HO305 := aZ_ (Kd.N_drew HO305.out)
                 replace BK274 := aZ_ (blk_drew BK274.out)
                 replace BK275 := aZ_ (blk_drew BK275.out)
                 replace BK281 := aZ_ (blk_drew BK281.out)
                 replace BK302 := aZ_ (blk_drew BK302.out)
                 replace HB := aZ_ (below_drew1 HB.out)
                 have p306 : 0 ≤ (x5_3 : Int) := of_decide_eq_true asm_
                 have q306 : x5_3 < (l0_3.length : Int) := of_decide_eq_true asm_
                 obtain ⟨ad306, e306, hx306_0⟩ := Kd.at_int HR0_3.out x5_3 p306 q306
                 have hw306_0 := hx306_0
                 cases e306
                 replace hx306_0 := (hbc HB.out hx306_0 :)
                 replace p306 := eq_true p306
                 replace q306 := eq_true q306
                 refine start_ (n := 14) (S := fun w' => w'.cell? ⟨gb281, 0, none⟩ = some (.string t276) ∧ w'.cell? ⟨gb281, 1, none⟩ = some (.string (strOfNums y278)) ∧ w'.cell? ⟨gb281, 2, none⟩ = some (u282002) ∧ w'.cell? ⟨gb281, 3, none⟩ = some (u282003) ∧ w'.cell? ⟨gb274, 0, none⟩ = some (.int .i64 a0_0) ∧ w'.cell? ⟨gb274, 1, none⟩ = some (.int .i64 a0_1) ∧ w'.cell? ⟨gb274, 2, none⟩ = some (.slice A0_2 l0_2.length c0_2) ∧ w'.cell? ⟨gb274, 3, none⟩ = some (.slice (some ad306) l0_3.length c0_3) ∧ w'.cell? ⟨gb274, 4, none⟩ = some (.slice (some ad292) l0_4.length c0_4) ∧ w'.cell? ⟨gb302, 0, none⟩ = some (.int .i64 t293) ∧ w'.cell? ⟨gb302, 1, none⟩ = some (.bool t294) ∧ w'.cell? ⟨gb302, 2, none⟩ = some (.int .i64 t295) ∧ w'.cell? ⟨gb302, 3, none⟩ = some (.string t296) ∧ w'.cell? ⟨gb302, 4, none⟩ = some (.string t297) ∧ w'.cell? ⟨gb302, 5, none⟩ = some (.string t298) ∧ w'.cell? ⟨gb302, 6, none⟩ = some (.slice Ao69 y303.length co69) ∧ w'.cell? (ad306.add (x5_3).toNat) = some (.int .i64 (rd l0_3 x5_3))) (ds := [13]) #[false, false, false, false, false, false, false, false, false, false, false, false, false, false] (by kernel_rfl) rfl rfl ⟨(blk_cell BK281.out 0).trans rfl, (blk_cell BK281.out 1).trans rfl, (blk_cell BK281.out 2).trans rfl, (blk_cell BK281.out 3).trans rfl, (blk_cell BK274.out 0).trans rfl, (blk_cell BK274.out 1).trans rfl, (blk_cell BK274.out 2).trans rfl, (blk_cell BK274.out 3).trans rfl, (blk_cell BK274.out 4).trans rfl, (blk_cell BK302.out 0).trans rfl, (blk_cell BK302.out 1).trans rfl, (blk_cell BK302.out 2).trans rfl, (blk_cell BK302.out 3).trans rfl, (blk_cell BK302.out 4).trans rfl, (blk_cell BK302.out 5).trans rfl, (blk_cell BK302.out 6).trans rfl, ((hbc HB.out hw306_0 :))⟩ (fun hHeld => ?_); refine with_tabW chancellaw5_Entity.tab12 chancellaw5_Entity.bits12 (fun HT_ HW_ => ?_)
                 generalize w73.drew = w74 at HO_282002 HO_282003 HO305 BK274 BK275 BK281 BK302 HB hx306_0 hHeld ⊢
                 refine pS_ 0 85 (fa 14 1) HT_ ?_
                 refine pS_ 2 87 (fa 14 5) HT_ ?_
                 refine pS_ 4 89 (fa 14 21) HT_ ?_
                 refine tS_ 1 86 (fa 14 23) HT_ HW_ hHeld ?_
                 refine tS_ 3 88 (fa 14 31) HT_ HW_ hHeld ?_
                 refine pS_ 5 90 (fa 14 63) HT_ ?_
                 refine tS_ 6 91 (fa 14 127) HT_ HW_ hHeld ?_
                 refine tS_ 8 93 (fa 14 383) HT_ HW_ hHeld ?_
                 refine one_ (i := 7) (N := some 92) #[true, true, true, true, true, true, true, true, true, false, false, false, false, false] rfl rfl (one_of HT_.out (by kernel_rfl)) (by decide) (fun K hK => ?_)
                 refine goes_ Try.func86 (by kernel_rfl) rfl #[.int .i64 (rd l0_3 x5_3)] (by rfl) rfl rfl gm_ ?_
                 with_reducible refine (chancellaw5_name.calls (rd l0_3 x5_3) t307 _ A58.out).mono ?_
                 rintro e w75 ⟨rfl, hb⟩
                 refine ⟨_, rfl, ?_⟩
                 replace HO_282002 := aZ_ (Kd.R_below (kR HO_282002) hb)
                 replace HO_282003 := aZ_ (Kd.N_below (kN HO_282003) hb)
                 replace HO305 := aZ_ (Kd.N_below (kN HO305) hb)
                 replace BK274 := aZ_ (blk_below (g := gb274) (o := .cells #[.int .i64 a0_0, .int .i64 a0_1, .slice A0_2 l0_2.length c0_2, .slice (some ad306) l0_3.length c0_3, .slice (some ad292) l0_4.length c0_4] 42 (0, 0)) (bk BK274) hb)
                 replace BK275 := aZ_ (blk_below (g := gb275) (o := .cells #[.string (⟨#[]⟩ : ByteArray), .string (⟨#[]⟩ : ByteArray), .slice none 0 0, .slice none 0 0] 46 (0, 0)) (bk BK275) hb)
                 replace BK281 := aZ_ (blk_below (g := gb281) (o := .cells #[.string t276, .string (strOfNums y278), u282002, u282003] 46 (0, 0)) (bk BK281) hb)
                 replace BK302 := aZ_ (blk_below (g := gb302) (o := .cells #[.int .i64 t293, .bool t294, .int .i64 t295, .string t296, .string t297, .string t298, .slice Ao69 y303.length co69] 31 (0, 0)) (bk BK302) hb)
                 replace HB := aZ_ (below_step (bl4 HB GE274 GE275 GE281 GE302) hb)
                 (try clear hb)
                 (try clear hb2)
                 (try clear hk)
                 (try clear hi)
                 refine hK.out _ _ ⟨(blk_cell BK281.out 0).trans rfl, (blk_cell BK281.out 1).trans rfl, (blk_cell BK281.out 2).trans rfl, (blk_cell BK281.out 3).trans rfl, (blk_cell BK274.out 0).trans rfl, (blk_cell BK274.out 1).trans rfl, (blk_cell BK274.out 2).trans rfl, (blk_cell BK274.out 3).trans rfl, (blk_cell BK274.out 4).trans rfl, (blk_cell BK302.out 0).trans rfl, (blk_cell BK302.out 1).trans rfl, (blk_cell BK302.out 2).trans rfl, (blk_cell BK302.out 3).trans rfl, (blk_cell BK302.out 4).trans rfl, (blk_cell BK302.out 5).trans rfl, (blk_cell BK302.out 6).trans rfl, ((hbc HB.out hw306_0 :))⟩ (fun hHeld => ?_)
                 clear hK K
                 refine norm_ (a' := ?_) ?_ ?_
                 rotate_left
                 ·
                  show Act.put _ (some 92) _ = _
                  simp only [Act.put, List.setIfInBounds_toArray, List.set_cons_zero, List.set_cons_succ, i64_w, i32_w]
                  rfl
                 refine pS_ 9 94 (fa 14 1023) HT_ ?_
                 refine one_ (i := 10) (N := some 95) #[true, true, true, true, true, true, true, true, true, true, true, false, false, false] rfl rfl (one_of HT_.out (by kernel_rfl)) (by decide) (fun K hK => ?_)
                 refine value_ (w1 := ?_) (v := ?_) (by rfl) rfl ?_ ?_
                 rotate_left 2
                 ·
                  go_simp
                  constructor
                  ·
                   rfl
                  ·
                   rfl
                 refine hK.out _ _ ⟨(blk_cell (blk_alloc BK281.out _) 0).trans rfl, (blk_cell (blk_alloc BK281.out _) 1).trans rfl, (blk_cell (blk_alloc BK281.out _) 2).trans rfl, (blk_cell (blk_alloc BK281.out _) 3).trans rfl, (blk_cell (blk_alloc BK274.out _) 0).trans rfl, (blk_cell (blk_alloc BK274.out _) 1).trans rfl, (blk_cell (blk_alloc BK274.out _) 2).trans rfl, (blk_cell (blk_alloc BK274.out _) 3).trans rfl, (blk_cell (blk_alloc BK274.out _) 4).trans rfl, (blk_cell (blk_alloc BK302.out _) 0).trans rfl, (blk_cell (blk_alloc BK302.out _) 1).trans rfl, (blk_cell (blk_alloc BK302.out _) 2).trans rfl, (blk_cell (blk_alloc BK302.out _) 3).trans rfl, (blk_cell (blk_alloc BK302.out _) 4).trans rfl, (blk_cell (blk_alloc BK302.out _) 5).trans rfl, (blk_cell (blk_alloc BK302.out _) 6).trans rfl, (World.cell?_alloc_lt _ _ _ (World.block_lt_of_cell? _ _ (((hbc HB.out hw306_0 :))))).trans (((hbc HB.out hw306_0 :)))⟩ (fun hHeld => ?_)
                 clear hK K
                 refine norm_ (a' := ?_) ?_ ?_
                 rotate_left
                 ·
                  show Act.put _ (some 95) _ = _
                  simp only [Act.put, List.setIfInBounds_toArray, List.set_cons_zero, List.set_cons_succ, i64_w, i32_w]
                  rfl
                 refine one_ (i := 11) (N := some 96) #[true, true, true, true, true, true, true, true, true, true, true, true, false, false] rfl rfl (one_of HT_.out (by kernel_rfl)) (by decide) (fun K hK => ?_)
                 refine Kd.N_append_step k49 (w0 := w) w.heap.size (by rfl) (.tmp 86) (.tmp 95) 44 49 (.agg #[(.string ⟨#[]⟩), (.int .i64 0), (.bool false), (.int .i64 0), (.string ⟨#[]⟩), (.string ⟨#[]⟩), (.string ⟨#[]⟩), (.slice none 0 0)]) 112 rfl Try.underlying44 info49 rfl (by decide) (by omega) u282003 x282003_3 (⟨t307, (⟨t293, t294, t295, t296, (⟨t297, t298⟩ : S28), y303⟩ : S31)⟩ : S49) [.string t307, .int .i64 t293, .bool t294, .int .i64 t295, .string t296, .string t297, .string t298, .slice Ao69 y303.length co69] (fun k_ => (w.heap.size ≤ k_) ∧ some k_ ≠ (u282002 : Value).ownBlock ∧ k_ ≠ gb274 ∧ k_ ≠ gb275 ∧ k_ ≠ gb281 ∧ k_ ≠ gb302) (fun k_ => ((fun k_ => (w.heap.size ≤ k_) ∧ some k_ ≠ (u282002 : Value).ownBlock ∧ k_ ≠ gb274 ∧ k_ ≠ gb275 ∧ k_ ≠ gb281 ∧ k_ ≠ gb302)) k_ ∧ some k_ ≠ (u282003 : Value).ownBlock) rfl rfl ?aP (fun _ hk => hk) ?aF ?aO ?aB ?aS ?aL ?_
                 (case aP => exact (k49_mkF _ _ (⟨t307, (⟨t293, t294, t295, t296, (⟨t297, t298⟩ : S28), y303⟩ : S31)⟩ : S49) (Kd.N_reads' (Kd.N_mono (ok' := (fun k_ => ((fun k_ => (w.heap.size ≤ k_) ∧ some k_ ≠ (u282002 : Value).ownBlock ∧ k_ ≠ gb274 ∧ k_ ≠ gb275 ∧ k_ ≠ gb281 ∧ k_ ≠ gb302)) k_ ∧ some k_ ≠ (u282003 : Value).ownBlock)) (HO305.out) (fun k_ hk => ⟨⟨hk.1, ⟨hk.2.1, ⟨hk.2.2.2.1, ⟨hk.2.2.2.2.1, ⟨hk.2.2.2.2.2.1, hk.2.2.2.2.2.2⟩⟩⟩⟩⟩, hk.2.2.1⟩))).2.1 (Kd.N_F (Kd.N_mono (ok' := (fun k_ => ((fun k_ => (w.heap.size ≤ k_) ∧ some k_ ≠ (u282002 : Value).ownBlock ∧ k_ ≠ gb274 ∧ k_ ≠ gb275 ∧ k_ ≠ gb281 ∧ k_ ≠ gb302)) k_ ∧ some k_ ≠ (u282003 : Value).ownBlock)) (HO305.out) (fun k_ hk => ⟨⟨hk.1, ⟨hk.2.1, ⟨hk.2.2.2.1, ⟨hk.2.2.2.2.1, ⟨hk.2.2.2.2.2.1, hk.2.2.2.2.2.2⟩⟩⟩⟩⟩, hk.2.2.1⟩)))))
                 (case aB => exact (bl4 HB GE274 GE275 GE281 GE302))
                 (case aF => exact (fun k_ hk => ⟨(Nat.le_trans (below_size (bl4 HB GE274 GE275 GE281 GE302)) hk), Kd.fresh' (Kd.R_lt (kR HO_282002)) k_ hk, Kd.freshB (g := gb274) (o := .cells #[.int .i64 a0_0, .int .i64 a0_1, .slice A0_2 l0_2.length c0_2, .slice (some ad306) l0_3.length c0_3, .slice (some ad292) l0_4.length c0_4] 42 (0, 0)) (bk BK274) k_ hk, Kd.freshB (g := gb275) (o := .cells #[.string (⟨#[]⟩ : ByteArray), .string (⟨#[]⟩ : ByteArray), .slice none 0 0, .slice none 0 0] 46 (0, 0)) (bk BK275) k_ hk, Kd.freshB (g := gb281) (o := .cells #[.string t276, .string (strOfNums y278), u282002, u282003] 46 (0, 0)) (bk BK281) k_ hk, Kd.freshB (g := gb302) (o := .cells #[.int .i64 t293, .bool t294, .int .i64 t295, .string t296, .string t297, .string t298, .slice Ao69 y303.length co69] 31 (0, 0)) (bk BK302) k_ hk⟩))
                 (case aO => exact (by (with_reducible repeat (first | apply Kd.N_alloc | apply Kd.N_drewN | apply Kd.N_drew)); exact Kd.N_mono HO_282003.out (fun _ hk => ⟨hk.1, ⟨hk.2.1, ⟨hk.2.2.2.1, ⟨hk.2.2.2.2.1, ⟨hk.2.2.2.2.2.1, hk.2.2.2.2.2.2⟩⟩⟩⟩⟩)))
                 (case aS => exact (below_size (bl4 HB GE274 GE275 GE281 GE302)))
                 (case aL => have := LMc59.out; omega)
                 intro v309 w76 ho hb hg hat
                 rw [← Ny308.out] at ho
                 replace HO_282002 := aZ_ (Kd.R_over' (kR HO_282002) (Kd.N_typed (kN HO_282003)) (by decide) hg)
                 replace BK274 := aZ_ (blk_grown (g := gb274) (o := .cells #[.int .i64 a0_0, .int .i64 a0_1, .slice A0_2 l0_2.length c0_2, .slice (some ad306) l0_3.length c0_3, .slice (some ad292) l0_4.length c0_4] 42 (0, 0)) (bk BK274) hg (Kd.N_ne HO_282003.out BK274.out (by decide)))
                 replace BK275 := aZ_ (blk_grown (g := gb275) (o := .cells #[.string (⟨#[]⟩ : ByteArray), .string (⟨#[]⟩ : ByteArray), .slice none 0 0, .slice none 0 0] 46 (0, 0)) (bk BK275) hg (Kd.N_ne HO_282003.out BK275.out (by decide)))
                 replace BK281 := aZ_ (blk_grown (g := gb281) (o := .cells #[.string t276, .string (strOfNums y278), u282002, u282003] 46 (0, 0)) (bk BK281) hg (Kd.N_ne HO_282003.out BK281.out (by decide)))
                 replace BK302 := aZ_ (blk_grown (g := gb302) (o := .cells #[.int .i64 t293, .bool t294, .int .i64 t295, .string t296, .string t297, .string t298, .slice Ao69 y303.length co69] 31 (0, 0)) (bk BK302) hg (Kd.N_ne HO_282003.out BK302.out (by decide)))
                 replace HB := aZ_ (hb)
                 have HO310 := aZ_ (ho)
                 clear HO_282003 HO305
                 clear ho hb hg hat
                 obtain ⟨Ao77, co77, eo77⟩ := Kd.N_slice HO310.out
                 (first | subst eo77 | (injection eo77 with f1_ f2_ f3_; have f4_ := f1_.symm; have f5_ := f3_.symm; clear f1_ f2_ f3_; subst f4_; subst f5_))
                 refine hK.out _ _ ⟨(blk_cell BK281.out 0).trans rfl, (blk_cell BK281.out 1).trans rfl, (blk_cell BK281.out 2).trans rfl, (blk_cell BK281.out 3).trans rfl, (blk_cell BK274.out 0).trans rfl, (blk_cell BK274.out 1).trans rfl, (blk_cell BK274.out 2).trans rfl, (blk_cell BK274.out 3).trans rfl, (blk_cell BK274.out 4).trans rfl, (blk_cell BK302.out 0).trans rfl, (blk_cell BK302.out 1).trans rfl, (blk_cell BK302.out 2).trans rfl, (blk_cell BK302.out 3).trans rfl, (blk_cell BK302.out 4).trans rfl, (blk_cell BK302.out 5).trans rfl, (blk_cell BK302.out 6).trans rfl, ((hbc HB.out hw306_0 :))⟩ (fun hHeld => ?_)
                 clear hK K
                 refine norm_ (a' := ?_) ?_ ?_
                 rotate_left
                 ·
                  show Act.put _ (some 96) _ = _
                  simp only [Act.put, List.setIfInBounds_toArray, List.set_cons_zero, List.set_cons_succ, i64_w, i32_w]
                  rfl
                 refine pS_ 12 97 (fa 14 8191) HT_ ?_
                 refine last_ (i := 13) (N := none) #[true, true, true, true, true, true, true, true, true, true, true, true, true, true] rfl rfl (one_of HT_.out (by kernel_rfl)) (by decide) (fun K hK => ?_)
                 have hs78 : w76.cell? ⟨gb281, 3, none⟩ = some (u282003) := (blk_cell BK281.out 3).trans rfl
                 have hfs78 := blk_frozen BK281.out 3
                 have hns78_0 := NB274_281.out
                 have hns78_1 := NB275_281.out
                 have hns78_3 := NB302_281.out
                 have hms78_0 := NB281_274.out
                 have hms78_1 := NB281_275.out
                 have hms78_3 := NB281_302.out
                 refine skip_ (w1 := ?_) (by rfl) rfl ?_ ?_
                 rotate_left
                 ·
                  go_simp
                  rfl
                 refine hK.out _ _ ?_
                 clear hK K
                 refine done_ (done_of HT_.out (by kernel_rfl)) ?_
                 try go_wp2
                 go_roundg kj38
                 case measure => have := HK1.out; have := HJ16.out; have := HK3.out; have := HJ38.out; omega
                 case rel => exact ⟨(wrap64 (x5_3 + 1)), (y308), (.slice Ao77 y308.length co77), rf_, H', ⟨by have := HK1.out; have := HJ16.out; have := HK3.out; have := HJ38.out; omega⟩, ⟨by (with_reducible repeat (first | apply Kd.R_alloc | apply Kd.R_drewN | apply Kd.R_drew)); exact Kd.R_mono (Kd.R_far (p := ⟨gb281, 3, none⟩) (Kd.R_types HO_282002.out BK281.out (by decide)) (fun _ hk => hk.2) (.slice Ao77 y308.length co77)) (fun _ hk => hk.1)⟩, ⟨by (with_reducible repeat (first | apply Kd.N_alloc | apply Kd.N_drewN | apply Kd.N_drew)); exact Kd.N_mono (Kd.N_far (p := ⟨gb281, 3, none⟩) (Kd.N_mono HO310.out (fun k_ hk => (⟨hk, hk.2.2.2.2.1⟩ : _ ∧ k_ ≠ gb281))) (fun _ hk => hk.2) (.slice Ao77 y308.length co77)) (fun _ hk => by first | exact ⟨hk.1.1, ⟨hk.1.2.1, ⟨hk.1.2.2.1, ⟨hk.1.2.2.2.1, hk.1.2.2.2.2.1⟩⟩⟩⟩ | (simp only [own_nf] at hk ⊢; exact ⟨hk.1.1, ⟨hk.1.2.1, ⟨hk.1.2.2.1, ⟨hk.1.2.2.2.1, hk.1.2.2.2.2.1⟩⟩⟩⟩))⟩, ⟨by (with_reducible repeat (first | refine blk_drewN ?_ _ | refine blk_drew ?_ | refine blk_alloc ?_ _)); refine blk_far ?_ NB274_281.out _; (with_reducible repeat (first | refine blk_drewN ?_ _ | refine blk_drew ?_ | refine blk_alloc ?_ _)); exact BK274.out⟩, ⟨by (with_reducible repeat (first | refine blk_drewN ?_ _ | refine blk_drew ?_ | refine blk_alloc ?_ _)); refine blk_far ?_ NB275_281.out _; (with_reducible repeat (first | refine blk_drewN ?_ _ | refine blk_drew ?_ | refine blk_alloc ?_ _)); exact BK275.out⟩, ⟨by (with_reducible repeat (first | refine blk_drewN ?_ _ | refine blk_drew ?_ | refine blk_alloc ?_ _)); refine blk_put (cs := #[.string t276, .string (strOfNums y278), u282002, u282003]) ?_ 3 _ rfl; (with_reducible repeat (first | refine blk_drewN ?_ _ | refine blk_drew ?_ | refine blk_alloc ?_ _)); exact BK281.out⟩, ⟨bl4 HB GE274 GE275 GE281 GE302⟩⟩
                ·
                 rw [if_neg c59] at H
                 exact absurd H (by simp)
               ·
                rw [if_neg c57] at H
                exact absurd H (by simp)
              ·
               rw [if_neg c56] at H
               exact absurd H (by simp)
             ·
              rw [if_neg c55] at H
              have c55b0 : decide (3 < (t299.length : Int)) = false := decide_eq_false c55
              have c55b1 : decide (3 < t299.length) = false := decide_eq_false (by omega)
              clear c55
              by_cases c79 : x5_3 < (l0_3.length : Int)
              ·
               rw [if_pos c79] at H
               have c79b0 : decide (x5_3 < (l0_3.length : Int)) = true := decide_eq_true c79
               clear c79
               replace H := Option.bind_eq_some_iff.mp H
               obtain ⟨t312, A800, H⟩ := H
               replace H : (if x282003_3.length < 1256584717458 then (chancellaw5_Entity.l1 kj38 (wrap64 (x5_3 + 1)) a0_0 a0_1 l0_2 l0_3 l0_4 t276 (strOfNums y278) x282002_1 (x282003_3 ++ [(⟨t312, (⟨t293, t294, t295, t296, (⟨t297, t298⟩ : S28), t299⟩ : S31)⟩ : S49)])) else (none)) = some (r1, r2, r3, r4) := H
               have A80 := aZ_ A800
               clear A800
               by_cases c81 : x282003_3.length < 1256584717458
               ·
                rw [if_pos c81] at H
                have LMc81 := aZ_ c81
                clear c81
                obtain ⟨y313, hy313⟩ : ∃ y_ : List (S49), y_ = (x282003_3 ++ [(⟨t312, (⟨t293, t294, t295, t296, (⟨t297, t298⟩ : S28), t299⟩ : S31)⟩ : S49)]) := ⟨_, rfl⟩
                replace H : (chancellaw5_Entity.l1 kj38 (wrap64 (x5_3 + 1)) a0_0 a0_1 l0_2 l0_3 l0_4 t276 (strOfNums y278) x282002_1 y313) = some (r1, r2, r3, r4) := by first | (rw [hy313]; with_reducible exact H) | (have H2_ := (Option.bind_some _ _).symm.trans H; rw [hy313]; with_reducible exact H2_) | (have H2_ := (Option.bind_some _ _).symm.trans H; with_reducible exact H2_) | with_reducible exact H | (rw [hy313]; exact H) | exact H
                have Ny313 := aZ_ hy313
                clear hy313
                have H' := aZ_ H
                clear H
                have hnb82 := NB274_275.out
                have hnc82 := NB275_274.out
                have hnb83 := NB274_281.out
                have hnc83 := NB281_274.out
                obtain ⟨hcz84_0, hcz84_1, hcz84_2, hcz84_3, hcz84_4, hfz84_0, hfz84_1, hfz84_2, hfz84_3, hfz84_4⟩ := bc5 BK274
                have p292 : 0 ≤ (x5_3 : Int) := of_decide_eq_true asm_
                have q292 : x5_3 < (l0_4.length : Int) := of_decide_eq_true asm_
                obtain ⟨ad292, A292_2, c292_2, A292_3, c292_3, e292, hx292_0, hx292_1, hx292_2, hx292_3, hl292_2, hi292_2, hl292_3, hi292_3⟩ := at_T25 HR0_4.out x5_3 p292 q292
                cases e292
                replace hx292_0 := (hbc HB.out hx292_0 :)
                replace hx292_1 := (hbc HB.out hx292_1 :)
                replace hx292_2 := (hbc HB.out hx292_2 :)
                replace hx292_3 := (hbc HB.out hx292_3 :)
                have HR292_2 := aZ_ hi292_2
                have HC292_2 := aZ_ hl292_2
                clear hi292_2 hl292_2
                have HR292_3 := aZ_ hi292_3
                have HC292_3 := aZ_ hl292_3
                clear hi292_3 hl292_3
                replace p292 := eq_true p292
                replace q292 := eq_true q292
                try go_wp2_with (first | ((with_reducible refine gate_callee (f := 16) rfl ?_); refine goesL_ (some 76) rfl rfl Try.func16 (by kernel_rfl) rfl #[.agg #[.int .i64 ((rd_T25 l0_4 x5_3).f0), .int .i64 ((rd_T25 l0_4 x5_3).f1), .slice A292_2 ((rd_T25 l0_4 x5_3).f2).length c292_2, .slice A292_3 ((rd_T25 l0_4 x5_3).f3).length c292_3]] rfl gm_ ?_; (with_reducible refine (chancellaw3_Good.calls kj38 ((rd_T25 l0_4 x5_3).f0) ((rd_T25 l0_4 x5_3).f1) _ _ ((rd_T25 l0_4 x5_3).f2) _ _ ((rd_T25 l0_4 x5_3).f3) t293 t294 t295 t296 t297 t298 t299 _ ?side1 ?side2 ?side3 ?side4 A54.out).mono ?_); (case side1 => exact kC (Kd.C_below HR292_2.out HB.out)); (case side2 => exact HC292_2.out); (case side3 => exact kC (Kd.C_below HR292_3.out HB.out)); (case side4 => exact HC292_3.out); rintro e w85 ⟨v300, rfl, ho0, hb⟩; refine ⟨_, rfl, ?_⟩; have HO301 := aZ_ (Kd.N_lower (Kd.N_mono (ok' := fun k_ => (w.heap.size ≤ k_) ∧ some k_ ≠ (u282002 : Value).ownBlock ∧ some k_ ≠ (u282003 : Value).ownBlock ∧ k_ ≠ gb274 ∧ k_ ≠ gb275 ∧ k_ ≠ gb281) ho0 (fun k_ hk_ => ⟨(Nat.le_trans (below_size (bl3 HB GE274 GE275 GE281)) hk_), (Kd.fresh' (Kd.R_lt (kR HO_282002)) k_ hk_), (Kd.fresh' (Kd.N_lt (kN HO_282003)) k_ hk_), (Kd.freshB (g := gb274) (o := .cells #[.int .i64 a0_0, .int .i64 a0_1, .slice A0_2 l0_2.length c0_2, .slice A0_3 l0_3.length c0_3, .slice (some ad292) l0_4.length c0_4] 42 (0, 0)) (bk BK274) k_ hk_), (Kd.freshB (g := gb275) (o := .cells #[.string (⟨#[]⟩ : ByteArray), .string (⟨#[]⟩ : ByteArray), .slice none 0 0, .slice none 0 0] 46 (0, 0)) (bk BK275) k_ hk_), (Kd.freshB (g := gb281) (o := .cells #[.string t276, .string (strOfNums y278), u282002, u282003] 46 (0, 0)) (bk BK281) k_ hk_)⟩)) (below_size (bl3 HB GE274 GE275 GE281))); replace HO_282002 := aZ_ (Kd.R_below (kR HO_282002) hb); replace HO_282003 := aZ_ (Kd.N_elder' (kN HO_282003) (by first | exact Kd.N_base ho0 | exact Kd.R_base ho0) hb); replace BK274 := aZ_ (blk_below (g := gb274) (o := .cells #[.int .i64 a0_0, .int .i64 a0_1, .slice A0_2 l0_2.length c0_2, .slice A0_3 l0_3.length c0_3, .slice (some ad292) l0_4.length c0_4] 42 (0, 0)) (bk BK274) hb); replace BK275 := aZ_ (blk_below (g := gb275) (o := .cells #[.string (⟨#[]⟩ : ByteArray), .string (⟨#[]⟩ : ByteArray), .slice none 0 0, .slice none 0 0] 46 (0, 0)) (bk BK275) hb); replace BK281 := aZ_ (blk_below (g := gb281) (o := .cells #[.string t276, .string (strOfNums y278), u282002, u282003] 46 (0, 0)) (bk BK281) hb); replace HB := aZ_ (below_step (bl3 HB GE274 GE275 GE281) hb); (try clear hb); (try clear hb2); (try clear hk); (try clear hi); (try clear ho0)) | ((with_reducible refine gate_dst (N := 6) rfl ?_); (try (refine gate_guard (by rfl) ?_; dsimp only)); refine bxE 6 #[.int .i64 0, .bool false, .int .i64 0, .string (⟨#[]⟩ : ByteArray), .string (⟨#[]⟩ : ByteArray), .string (⟨#[]⟩ : ByteArray), .slice none 0 0] 31 ?_; intro gb302 hg w86 hbox hb; replace HO_282002 := aZ_ (Kd.R_below (kR HO_282002) hb); replace HO_282003 := aZ_ (Kd.N_below (Kd.N_elderB (kN HO_282003) gb302 (Nat.le_of_eq hg.symm)) hb); replace HO301 := aZ_ (Kd.N_below (Kd.N_elderB (kN HO301) gb302 (Nat.le_of_eq hg.symm)) hb); have BK302 := aZ_ (hbox); have GW302 := aZ_ ((by rw [hg]; exact (below_size (bl3 HB GE274 GE275 GE281)) : w.heap.size ≤ gb302)); have GE302 := aZ_ ((by rw [hg]; exact (below_size (bl3 HB GE274 GE275 GE281)) : w.heap.size ≤ gb302)); replace HB := aZ_ (below_step (bl3 HB GE274 GE275 GE281) hb); have NB274_302 := aZ_ ((by rw [hg]; exact Nat.ne_of_lt (blk_lt (g := gb274) (o := .cells #[.int .i64 a0_0, .int .i64 a0_1, .slice A0_2 l0_2.length c0_2, .slice A0_3 l0_3.length c0_3, .slice (some ad292) l0_4.length c0_4] 42 (0, 0)) (bk BK274)) : gb274 ≠ gb302)); have NB302_274 := aZ_ ((by rw [hg]; exact Nat.ne_of_gt (blk_lt (g := gb274) (o := .cells #[.int .i64 a0_0, .int .i64 a0_1, .slice A0_2 l0_2.length c0_2, .slice A0_3 l0_3.length c0_3, .slice (some ad292) l0_4.length c0_4] 42 (0, 0)) (bk BK274)) : gb302 ≠ gb274)); replace BK274 := aZ_ (blk_below (g := gb274) (o := .cells #[.int .i64 a0_0, .int .i64 a0_1, .slice A0_2 l0_2.length c0_2, .slice A0_3 l0_3.length c0_3, .slice (some ad292) l0_4.length c0_4] 42 (0, 0)) (bk BK274) hb); have NB275_302 := aZ_ ((by rw [hg]; exact Nat.ne_of_lt (blk_lt (g := gb275) (o := .cells #[.string (⟨#[]⟩ : ByteArray), .string (⟨#[]⟩ : ByteArray), .slice none 0 0, .slice none 0 0] 46 (0, 0)) (bk BK275)) : gb275 ≠ gb302)); have NB302_275 := aZ_ ((by rw [hg]; exact Nat.ne_of_gt (blk_lt (g := gb275) (o := .cells #[.string (⟨#[]⟩ : ByteArray), .string (⟨#[]⟩ : ByteArray), .slice none 0 0, .slice none 0 0] 46 (0, 0)) (bk BK275)) : gb302 ≠ gb275)); replace BK275 := aZ_ (blk_below (g := gb275) (o := .cells #[.string (⟨#[]⟩ : ByteArray), .string (⟨#[]⟩ : ByteArray), .slice none 0 0, .slice none 0 0] 46 (0, 0)) (bk BK275) hb); have NB281_302 := aZ_ ((by rw [hg]; exact Nat.ne_of_lt (blk_lt (g := gb281) (o := .cells #[.string t276, .string (strOfNums y278), u282002, u282003] 46 (0, 0)) (bk BK281)) : gb281 ≠ gb302)); have NB302_281 := aZ_ ((by rw [hg]; exact Nat.ne_of_gt (blk_lt (g := gb281) (o := .cells #[.string t276, .string (strOfNums y278), u282002, u282003] 46 (0, 0)) (bk BK281)) : gb302 ≠ gb281)); replace BK281 := aZ_ (blk_below (g := gb281) (o := .cells #[.string t276, .string (strOfNums y278), u282002, u282003] 46 (0, 0)) (bk BK281) hb); clear hb hbox hg; have hnb87 := NB302_274.out; have hnc87 := NB274_302.out; have hnb88 := NB302_275.out; have hnc88 := NB275_302.out; have hnb89 := NB302_281.out; have hnc89 := NB281_302.out; obtain ⟨hcz90_0, hcz90_1, hcz90_2, hcz90_3, hcz90_4, hcz90_5, hcz90_6, hfz90_0, hfz90_1, hfz90_2, hfz90_3, hfz90_4, hfz90_5, hfz90_6⟩ := bc7 BK302; obtain ⟨Ao91, co91, eo91⟩ := Kd.N_slice HO301.out; subst eo91))
                have n0_ : Aside0 (Kd.R k28 28 (((((((w86.setCell ⟨gb302, 0, none⟩ (.int .i64 t293)).setCell ⟨gb302, 1, none⟩ (.bool t294)).setCell ⟨gb302, 2, none⟩ (.int .i64 t295)).setCell ⟨gb302, 3, none⟩ (.string t296)).setCell ⟨gb302, 4, none⟩ (.string t297)).setCell ⟨gb302, 5, none⟩ (.string t298)).setCell ⟨gb302, 6, none⟩ (.slice Ao91 t299.length co91)) w.heap.size (fun k_ => (w.heap.size ≤ k_)) u282002 x282002_1) := ⟨by (with_reducible repeat (first | apply Kd.R_alloc | apply Kd.R_drewN | apply Kd.R_drew)); exact Kd.R_mono (Kd.R_far (p := ⟨gb302, 6, none⟩) (Kd.R_far (p := ⟨gb302, 5, none⟩) (Kd.R_far (p := ⟨gb302, 4, none⟩) (Kd.R_far (p := ⟨gb302, 3, none⟩) (Kd.R_far (p := ⟨gb302, 2, none⟩) (Kd.R_far (p := ⟨gb302, 1, none⟩) (Kd.R_far (p := ⟨gb302, 0, none⟩) (Kd.R_types HO_282002.out BK302.out (by decide)) (fun _ hk => hk.2) (.int .i64 t293)) (fun _ hk => hk.2) (.bool t294)) (fun _ hk => hk.2) (.int .i64 t295)) (fun _ hk => hk.2) (.string t296)) (fun _ hk => hk.2) (.string t297)) (fun _ hk => hk.2) (.string t298)) (fun _ hk => hk.2) (.slice Ao91 t299.length co91)) (fun _ hk => hk.1)⟩
                have n1_ : Aside0 (Kd.N k49 49 (((((((w86.setCell ⟨gb302, 0, none⟩ (.int .i64 t293)).setCell ⟨gb302, 1, none⟩ (.bool t294)).setCell ⟨gb302, 2, none⟩ (.int .i64 t295)).setCell ⟨gb302, 3, none⟩ (.string t296)).setCell ⟨gb302, 4, none⟩ (.string t297)).setCell ⟨gb302, 5, none⟩ (.string t298)).setCell ⟨gb302, 6, none⟩ (.slice Ao91 t299.length co91)) w.heap.size (fun k_ => (w.heap.size ≤ k_) ∧ some k_ ≠ (u282002 : Value).ownBlock ∧ some k_ ≠ (.slice Ao91 t299.length co91 : Value).ownBlock ∧ k_ ≠ gb274 ∧ k_ ≠ gb275 ∧ k_ ≠ gb281 ∧ k_ ≠ gb302) u282003 x282003_3) := ⟨by (with_reducible repeat (first | apply Kd.N_alloc | apply Kd.N_drewN | apply Kd.N_drew)); exact Kd.N_mono (Kd.N_far (p := ⟨gb302, 6, none⟩) (Kd.N_far (p := ⟨gb302, 5, none⟩) (Kd.N_far (p := ⟨gb302, 4, none⟩) (Kd.N_far (p := ⟨gb302, 3, none⟩) (Kd.N_far (p := ⟨gb302, 2, none⟩) (Kd.N_far (p := ⟨gb302, 1, none⟩) (Kd.N_far (p := ⟨gb302, 0, none⟩) (Kd.N_mono HO_282003.out (fun k_ hk => (⟨hk, hk.2⟩ : _ ∧ k_ ≠ gb302))) (fun _ hk => hk.2) (.int .i64 t293)) (fun _ hk => hk.2) (.bool t294)) (fun _ hk => hk.2) (.int .i64 t295)) (fun _ hk => hk.2) (.string t296)) (fun _ hk => hk.2) (.string t297)) (fun _ hk => hk.2) (.string t298)) (fun _ hk => hk.2) (.slice Ao91 t299.length co91)) (fun _ hk => ⟨hk.1.1.1.1, ⟨hk.1.1.1.2.1, ⟨hk.1.1.2, ⟨hk.1.1.1.2.2.1, ⟨hk.1.1.1.2.2.2.1, ⟨hk.1.1.1.2.2.2.2, hk.1.2⟩⟩⟩⟩⟩⟩)⟩
                have n2_ : Aside0 (Kd.N k31 31 (((((((w86.setCell ⟨gb302, 0, none⟩ (.int .i64 t293)).setCell ⟨gb302, 1, none⟩ (.bool t294)).setCell ⟨gb302, 2, none⟩ (.int .i64 t295)).setCell ⟨gb302, 3, none⟩ (.string t296)).setCell ⟨gb302, 4, none⟩ (.string t297)).setCell ⟨gb302, 5, none⟩ (.string t298)).setCell ⟨gb302, 6, none⟩ (.slice Ao91 t299.length co91)) w.heap.size (fun k_ => (w.heap.size ≤ k_) ∧ some k_ ≠ (u282002 : Value).ownBlock ∧ some k_ ≠ (u282003 : Value).ownBlock ∧ k_ ≠ gb274 ∧ k_ ≠ gb275 ∧ k_ ≠ gb281 ∧ k_ ≠ gb302) (.slice Ao91 t299.length co91) t299) := ⟨by (with_reducible repeat (first | apply Kd.N_alloc | apply Kd.N_drewN | apply Kd.N_drew)); exact Kd.N_mono (Kd.N_far (p := ⟨gb302, 6, none⟩) (Kd.N_far (p := ⟨gb302, 5, none⟩) (Kd.N_far (p := ⟨gb302, 4, none⟩) (Kd.N_far (p := ⟨gb302, 3, none⟩) (Kd.N_far (p := ⟨gb302, 2, none⟩) (Kd.N_far (p := ⟨gb302, 1, none⟩) (Kd.N_far (p := ⟨gb302, 0, none⟩) (Kd.N_mono HO301.out (fun k_ hk => (⟨hk, hk.2⟩ : _ ∧ k_ ≠ gb302))) (fun _ hk => hk.2) (.int .i64 t293)) (fun _ hk => hk.2) (.bool t294)) (fun _ hk => hk.2) (.int .i64 t295)) (fun _ hk => hk.2) (.string t296)) (fun _ hk => hk.2) (.string t297)) (fun _ hk => hk.2) (.string t298)) (fun _ hk => hk.2) (.slice Ao91 t299.length co91)) (fun _ hk => ⟨hk.1.1.1, ⟨hk.1.1.2.1, ⟨hk.1.1.2.2.1, ⟨hk.1.1.2.2.2.1, ⟨hk.1.1.2.2.2.2.1, ⟨hk.1.1.2.2.2.2.2, hk.1.2⟩⟩⟩⟩⟩⟩)⟩
                have n3_ : Aside0 ((((((((w86.setCell ⟨gb302, 0, none⟩ (.int .i64 t293)).setCell ⟨gb302, 1, none⟩ (.bool t294)).setCell ⟨gb302, 2, none⟩ (.int .i64 t295)).setCell ⟨gb302, 3, none⟩ (.string t296)).setCell ⟨gb302, 4, none⟩ (.string t297)).setCell ⟨gb302, 5, none⟩ (.string t298)).setCell ⟨gb302, 6, none⟩ (.slice Ao91 t299.length co91)).heap[gb274]? = some (.cells #[.int .i64 a0_0, .int .i64 a0_1, .slice A0_2 l0_2.length c0_2, .slice A0_3 l0_3.length c0_3, .slice (some ad292) l0_4.length c0_4] 42 (0, 0))) := ⟨by (with_reducible repeat (first | refine blk_drewN ?_ _ | refine blk_drew ?_ | refine blk_alloc ?_ _)); refine blk_far ?_ NB274_302.out _; (with_reducible repeat (first | refine blk_drewN ?_ _ | refine blk_drew ?_ | refine blk_alloc ?_ _)); refine blk_far ?_ NB274_302.out _; (with_reducible repeat (first | refine blk_drewN ?_ _ | refine blk_drew ?_ | refine blk_alloc ?_ _)); refine blk_far ?_ NB274_302.out _; (with_reducible repeat (first | refine blk_drewN ?_ _ | refine blk_drew ?_ | refine blk_alloc ?_ _)); refine blk_far ?_ NB274_302.out _; (with_reducible repeat (first | refine blk_drewN ?_ _ | refine blk_drew ?_ | refine blk_alloc ?_ _)); refine blk_far ?_ NB274_302.out _; (with_reducible repeat (first | refine blk_drewN ?_ _ | refine blk_drew ?_ | refine blk_alloc ?_ _)); refine blk_far ?_ NB274_302.out _; (with_reducible repeat (first | refine blk_drewN ?_ _ | refine blk_drew ?_ | refine blk_alloc ?_ _)); refine blk_far ?_ NB274_302.out _; (with_reducible repeat (first | refine blk_drewN ?_ _ | refine blk_drew ?_ | refine blk_alloc ?_ _)); exact BK274.out⟩
                have n4_ : Aside0 ((((((((w86.setCell ⟨gb302, 0, none⟩ (.int .i64 t293)).setCell ⟨gb302, 1, none⟩ (.bool t294)).setCell ⟨gb302, 2, none⟩ (.int .i64 t295)).setCell ⟨gb302, 3, none⟩ (.string t296)).setCell ⟨gb302, 4, none⟩ (.string t297)).setCell ⟨gb302, 5, none⟩ (.string t298)).setCell ⟨gb302, 6, none⟩ (.slice Ao91 t299.length co91)).heap[gb275]? = some (.cells #[.string (⟨#[]⟩ : ByteArray), .string (⟨#[]⟩ : ByteArray), .slice none 0 0, .slice none 0 0] 46 (0, 0))) := ⟨by (with_reducible repeat (first | refine blk_drewN ?_ _ | refine blk_drew ?_ | refine blk_alloc ?_ _)); refine blk_far ?_ NB275_302.out _; (with_reducible repeat (first | refine blk_drewN ?_ _ | refine blk_drew ?_ | refine blk_alloc ?_ _)); refine blk_far ?_ NB275_302.out _; (with_reducible repeat (first | refine blk_drewN ?_ _ | refine blk_drew ?_ | refine blk_alloc ?_ _)); refine blk_far ?_ NB275_302.out _; (with_reducible repeat (first | refine blk_drewN ?_ _ | refine blk_drew ?_ | refine blk_alloc ?_ _)); refine blk_far ?_ NB275_302.out _; (with_reducible repeat (first | refine blk_drewN ?_ _ | refine blk_drew ?_ | refine blk_alloc ?_ _)); refine blk_far ?_ NB275_302.out _; (with_reducible repeat (first | refine blk_drewN ?_ _ | refine blk_drew ?_ | refine blk_alloc ?_ _)); refine blk_far ?_ NB275_302.out _; (with_reducible repeat (first | refine blk_drewN ?_ _ | refine blk_drew ?_ | refine blk_alloc ?_ _)); refine blk_far ?_ NB275_302.out _; (with_reducible repeat (first | refine blk_drewN ?_ _ | refine blk_drew ?_ | refine blk_alloc ?_ _)); exact BK275.out⟩
                have n5_ : Aside0 ((((((((w86.setCell ⟨gb302, 0, none⟩ (.int .i64 t293)).setCell ⟨gb302, 1, none⟩ (.bool t294)).setCell ⟨gb302, 2, none⟩ (.int .i64 t295)).setCell ⟨gb302, 3, none⟩ (.string t296)).setCell ⟨gb302, 4, none⟩ (.string t297)).setCell ⟨gb302, 5, none⟩ (.string t298)).setCell ⟨gb302, 6, none⟩ (.slice Ao91 t299.length co91)).heap[gb281]? = some (.cells #[.string t276, .string (strOfNums y278), u282002, u282003] 46 (0, 0))) := ⟨by (with_reducible repeat (first | refine blk_drewN ?_ _ | refine blk_drew ?_ | refine blk_alloc ?_ _)); refine blk_far ?_ NB281_302.out _; (with_reducible repeat (first | refine blk_drewN ?_ _ | refine blk_drew ?_ | refine blk_alloc ?_ _)); refine blk_far ?_ NB281_302.out _; (with_reducible repeat (first | refine blk_drewN ?_ _ | refine blk_drew ?_ | refine blk_alloc ?_ _)); refine blk_far ?_ NB281_302.out _; (with_reducible repeat (first | refine blk_drewN ?_ _ | refine blk_drew ?_ | refine blk_alloc ?_ _)); refine blk_far ?_ NB281_302.out _; (with_reducible repeat (first | refine blk_drewN ?_ _ | refine blk_drew ?_ | refine blk_alloc ?_ _)); refine blk_far ?_ NB281_302.out _; (with_reducible repeat (first | refine blk_drewN ?_ _ | refine blk_drew ?_ | refine blk_alloc ?_ _)); refine blk_far ?_ NB281_302.out _; (with_reducible repeat (first | refine blk_drewN ?_ _ | refine blk_drew ?_ | refine blk_alloc ?_ _)); refine blk_far ?_ NB281_302.out _; (with_reducible repeat (first | refine blk_drewN ?_ _ | refine blk_drew ?_ | refine blk_alloc ?_ _)); exact BK281.out⟩
                have n6_ : Aside0 ((((((((w86.setCell ⟨gb302, 0, none⟩ (.int .i64 t293)).setCell ⟨gb302, 1, none⟩ (.bool t294)).setCell ⟨gb302, 2, none⟩ (.int .i64 t295)).setCell ⟨gb302, 3, none⟩ (.string t296)).setCell ⟨gb302, 4, none⟩ (.string t297)).setCell ⟨gb302, 5, none⟩ (.string t298)).setCell ⟨gb302, 6, none⟩ (.slice Ao91 t299.length co91)).heap[gb302]? = some (.cells #[.int .i64 t293, .bool t294, .int .i64 t295, .string t296, .string t297, .string t298, .slice Ao91 t299.length co91] 31 (0, 0))) := ⟨by (with_reducible repeat (first | refine blk_drewN ?_ _ | refine blk_drew ?_ | refine blk_alloc ?_ _)); refine blk_put (cs := #[.int .i64 t293, .bool t294, .int .i64 t295, .string t296, .string t297, .string t298, .slice none 0 0]) ?_ 6 _ rfl; (with_reducible repeat (first | refine blk_drewN ?_ _ | refine blk_drew ?_ | refine blk_alloc ?_ _)); refine blk_put (cs := #[.int .i64 t293, .bool t294, .int .i64 t295, .string t296, .string t297, .string (⟨#[]⟩ : ByteArray), .slice none 0 0]) ?_ 5 _ rfl; (with_reducible repeat (first | refine blk_drewN ?_ _ | refine blk_drew ?_ | refine blk_alloc ?_ _)); refine blk_put (cs := #[.int .i64 t293, .bool t294, .int .i64 t295, .string t296, .string (⟨#[]⟩ : ByteArray), .string (⟨#[]⟩ : ByteArray), .slice none 0 0]) ?_ 4 _ rfl; (with_reducible repeat (first | refine blk_drewN ?_ _ | refine blk_drew ?_ | refine blk_alloc ?_ _)); refine blk_put (cs := #[.int .i64 t293, .bool t294, .int .i64 t295, .string (⟨#[]⟩ : ByteArray), .string (⟨#[]⟩ : ByteArray), .string (⟨#[]⟩ : ByteArray), .slice none 0 0]) ?_ 3 _ rfl; (with_reducible repeat (first | refine blk_drewN ?_ _ | refine blk_drew ?_ | refine blk_alloc ?_ _)); refine blk_put (cs := #[.int .i64 t293, .bool t294, .int .i64 0, .string (⟨#[]⟩ : ByteArray), .string (⟨#[]⟩ : ByteArray), .string (⟨#[]⟩ : ByteArray), .slice none 0 0]) ?_ 2 _ rfl; (with_reducible repeat (first | refine blk_drewN ?_ _ | refine blk_drew ?_ | refine blk_alloc ?_ _)); refine blk_put (cs := #[.int .i64 t293, .bool false, .int .i64 0, .string (⟨#[]⟩ : ByteArray), .string (⟨#[]⟩ : ByteArray), .string (⟨#[]⟩ : ByteArray), .slice none 0 0]) ?_ 1 _ rfl; (with_reducible repeat (first | refine blk_drewN ?_ _ | refine blk_drew ?_ | refine blk_alloc ?_ _)); refine blk_put (cs := #[.int .i64 0, .bool false, .int .i64 0, .string (⟨#[]⟩ : ByteArray), .string (⟨#[]⟩ : ByteArray), .string (⟨#[]⟩ : ByteArray), .slice none 0 0]) ?_ 0 _ rfl; (with_reducible repeat (first | refine blk_drewN ?_ _ | refine blk_drew ?_ | refine blk_alloc ?_ _)); exact BK302.out⟩
                have n7_ : Aside0 (Below w.heap.size w (((((((w86.setCell ⟨gb302, 0, none⟩ (.int .i64 t293)).setCell ⟨gb302, 1, none⟩ (.bool t294)).setCell ⟨gb302, 2, none⟩ (.int .i64 t295)).setCell ⟨gb302, 3, none⟩ (.string t296)).setCell ⟨gb302, 4, none⟩ (.string t297)).setCell ⟨gb302, 5, none⟩ (.string t298)).setCell ⟨gb302, 6, none⟩ (.slice Ao91 t299.length co91))) := ⟨bl4 HB GE274 GE275 GE281 GE302⟩
                (try clear HO_282002)
                (try clear HO_282003)
                (try clear HO301)
                (try clear BK274)
                (try clear BK275)
                (try clear BK281)
                (try clear BK302)
                (try clear HB)
                generalize (((((((w86.setCell ⟨gb302, 0, none⟩ (.int .i64 t293)).setCell ⟨gb302, 1, none⟩ (.bool t294)).setCell ⟨gb302, 2, none⟩ (.int .i64 t295)).setCell ⟨gb302, 3, none⟩ (.string t296)).setCell ⟨gb302, 4, none⟩ (.string t297)).setCell ⟨gb302, 5, none⟩ (.string t298)).setCell ⟨gb302, 6, none⟩ (.slice Ao91 t299.length co91)) = w92 at n0_ n1_ n2_ n3_ n4_ n5_ n6_ n7_ ⊢
                have HO_282002 := n0_
                have HO_282003 := n1_
                have HO301 := n2_
                have BK274 := n3_
                have BK275 := n4_
                have BK281 := n5_
                have BK302 := n6_
                have HB := n7_
                clear n0_ n1_ n2_ n3_ n4_ n5_ n6_ n7_
                replace HO_282002 := aZ_ (Kd.R_drew HO_282002.out)
                replace HO_282003 := aZ_ (Kd.N_drew HO_282003.out)
                replace HO301 := aZ_ (Kd.N_drew HO301.out)
                replace BK274 := aZ_ (blk_drew BK274.out)
                replace BK275 := aZ_ (blk_drew BK275.out)
                replace BK281 := aZ_ (blk_drew BK281.out)
                replace BK302 := aZ_ (blk_drew BK302.out)
                replace HB := aZ_ (below_drew1 HB.out)
                have p311 : 0 ≤ (x5_3 : Int) := of_decide_eq_true asm_
                have q311 : x5_3 < (l0_3.length : Int) := of_decide_eq_true asm_
                obtain ⟨ad311, e311, hx311_0⟩ := Kd.at_int HR0_3.out x5_3 p311 q311
                have hw311_0 := hx311_0
                cases e311
                replace hx311_0 := (hbc HB.out hx311_0 :)
                replace p311 := eq_true p311
                replace q311 := eq_true q311
                refine start_ (n := 14) (S := fun w' => w'.cell? ⟨gb281, 0, none⟩ = some (.string t276) ∧ w'.cell? ⟨gb281, 1, none⟩ = some (.string (strOfNums y278)) ∧ w'.cell? ⟨gb281, 2, none⟩ = some (u282002) ∧ w'.cell? ⟨gb281, 3, none⟩ = some (u282003) ∧ w'.cell? ⟨gb274, 0, none⟩ = some (.int .i64 a0_0) ∧ w'.cell? ⟨gb274, 1, none⟩ = some (.int .i64 a0_1) ∧ w'.cell? ⟨gb274, 2, none⟩ = some (.slice A0_2 l0_2.length c0_2) ∧ w'.cell? ⟨gb274, 3, none⟩ = some (.slice (some ad311) l0_3.length c0_3) ∧ w'.cell? ⟨gb274, 4, none⟩ = some (.slice (some ad292) l0_4.length c0_4) ∧ w'.cell? ⟨gb302, 0, none⟩ = some (.int .i64 t293) ∧ w'.cell? ⟨gb302, 1, none⟩ = some (.bool t294) ∧ w'.cell? ⟨gb302, 2, none⟩ = some (.int .i64 t295) ∧ w'.cell? ⟨gb302, 3, none⟩ = some (.string t296) ∧ w'.cell? ⟨gb302, 4, none⟩ = some (.string t297) ∧ w'.cell? ⟨gb302, 5, none⟩ = some (.string t298) ∧ w'.cell? ⟨gb302, 6, none⟩ = some (.slice Ao91 t299.length co91) ∧ w'.cell? (ad311.add (x5_3).toNat) = some (.int .i64 (rd l0_3 x5_3))) (ds := [13]) #[false, false, false, false, false, false, false, false, false, false, false, false, false, false] (by kernel_rfl) rfl rfl ⟨(blk_cell BK281.out 0).trans rfl, (blk_cell BK281.out 1).trans rfl, (blk_cell BK281.out 2).trans rfl, (blk_cell BK281.out 3).trans rfl, (blk_cell BK274.out 0).trans rfl, (blk_cell BK274.out 1).trans rfl, (blk_cell BK274.out 2).trans rfl, (blk_cell BK274.out 3).trans rfl, (blk_cell BK274.out 4).trans rfl, (blk_cell BK302.out 0).trans rfl, (blk_cell BK302.out 1).trans rfl, (blk_cell BK302.out 2).trans rfl, (blk_cell BK302.out 3).trans rfl, (blk_cell BK302.out 4).trans rfl, (blk_cell BK302.out 5).trans rfl, (blk_cell BK302.out 6).trans rfl, ((hbc HB.out hw311_0 :))⟩ (fun hHeld => ?_); refine with_tabW chancellaw5_Entity.tab12 chancellaw5_Entity.bits12 (fun HT_ HW_ => ?_)
                generalize w92.drew = w93 at HO_282002 HO_282003 HO301 BK274 BK275 BK281 BK302 HB hx311_0 hHeld ⊢
                refine pS_ 0 85 (fa 14 1) HT_ ?_
                refine pS_ 2 87 (fa 14 5) HT_ ?_
                refine pS_ 4 89 (fa 14 21) HT_ ?_
                refine tS_ 1 86 (fa 14 23) HT_ HW_ hHeld ?_
                refine tS_ 3 88 (fa 14 31) HT_ HW_ hHeld ?_
                refine pS_ 5 90 (fa 14 63) HT_ ?_
                refine tS_ 6 91 (fa 14 127) HT_ HW_ hHeld ?_
                refine tS_ 8 93 (fa 14 383) HT_ HW_ hHeld ?_
                refine one_ (i := 7) (N := some 92) #[true, true, true, true, true, true, true, true, true, false, false, false, false, false] rfl rfl (one_of HT_.out (by kernel_rfl)) (by decide) (fun K hK => ?_)
                refine goes_ Try.func86 (by kernel_rfl) rfl #[.int .i64 (rd l0_3 x5_3)] (by rfl) rfl rfl gm_ ?_
                with_reducible refine (chancellaw5_name.calls (rd l0_3 x5_3) t312 _ A80.out).mono ?_
                rintro e w94 ⟨rfl, hb⟩
                refine ⟨_, rfl, ?_⟩
                replace HO_282002 := aZ_ (Kd.R_below (kR HO_282002) hb)
                replace HO_282003 := aZ_ (Kd.N_below (kN HO_282003) hb)
                replace HO301 := aZ_ (Kd.N_below (kN HO301) hb)
                replace BK274 := aZ_ (blk_below (g := gb274) (o := .cells #[.int .i64 a0_0, .int .i64 a0_1, .slice A0_2 l0_2.length c0_2, .slice (some ad311) l0_3.length c0_3, .slice (some ad292) l0_4.length c0_4] 42 (0, 0)) (bk BK274) hb)
                replace BK275 := aZ_ (blk_below (g := gb275) (o := .cells #[.string (⟨#[]⟩ : ByteArray), .string (⟨#[]⟩ : ByteArray), .slice none 0 0, .slice none 0 0] 46 (0, 0)) (bk BK275) hb)
                replace BK281 := aZ_ (blk_below (g := gb281) (o := .cells #[.string t276, .string (strOfNums y278), u282002, u282003] 46 (0, 0)) (bk BK281) hb)
                replace BK302 := aZ_ (blk_below (g := gb302) (o := .cells #[.int .i64 t293, .bool t294, .int .i64 t295, .string t296, .string t297, .string t298, .slice Ao91 t299.length co91] 31 (0, 0)) (bk BK302) hb)
                replace HB := aZ_ (below_step (bl4 HB GE274 GE275 GE281 GE302) hb)
                (try clear hb)
                (try clear hb2)
                (try clear hk)
                (try clear hi)
                refine hK.out _ _ ⟨(blk_cell BK281.out 0).trans rfl, (blk_cell BK281.out 1).trans rfl, (blk_cell BK281.out 2).trans rfl, (blk_cell BK281.out 3).trans rfl, (blk_cell BK274.out 0).trans rfl, (blk_cell BK274.out 1).trans rfl, (blk_cell BK274.out 2).trans rfl, (blk_cell BK274.out 3).trans rfl, (blk_cell BK274.out 4).trans rfl, (blk_cell BK302.out 0).trans rfl, (blk_cell BK302.out 1).trans rfl, (blk_cell BK302.out 2).trans rfl, (blk_cell BK302.out 3).trans rfl, (blk_cell BK302.out 4).trans rfl, (blk_cell BK302.out 5).trans rfl, (blk_cell BK302.out 6).trans rfl, ((hbc HB.out hw311_0 :))⟩ (fun hHeld => ?_)
                clear hK K
                refine norm_ (a' := ?_) ?_ ?_
                rotate_left
                ·
                 show Act.put _ (some 92) _ = _
                 simp only [Act.put, List.setIfInBounds_toArray, List.set_cons_zero, List.set_cons_succ, i64_w, i32_w]
                 rfl
                refine pS_ 9 94 (fa 14 1023) HT_ ?_
                refine one_ (i := 10) (N := some 95) #[true, true, true, true, true, true, true, true, true, true, true, false, false, false] rfl rfl (one_of HT_.out (by kernel_rfl)) (by decide) (fun K hK => ?_)
                refine value_ (w1 := ?_) (v := ?_) (by rfl) rfl ?_ ?_
                rotate_left 2
                ·
                 go_simp
                 constructor
                 ·
                  rfl
                 ·
                  rfl
                refine hK.out _ _ ⟨(blk_cell (blk_alloc BK281.out _) 0).trans rfl, (blk_cell (blk_alloc BK281.out _) 1).trans rfl, (blk_cell (blk_alloc BK281.out _) 2).trans rfl, (blk_cell (blk_alloc BK281.out _) 3).trans rfl, (blk_cell (blk_alloc BK274.out _) 0).trans rfl, (blk_cell (blk_alloc BK274.out _) 1).trans rfl, (blk_cell (blk_alloc BK274.out _) 2).trans rfl, (blk_cell (blk_alloc BK274.out _) 3).trans rfl, (blk_cell (blk_alloc BK274.out _) 4).trans rfl, (blk_cell (blk_alloc BK302.out _) 0).trans rfl, (blk_cell (blk_alloc BK302.out _) 1).trans rfl, (blk_cell (blk_alloc BK302.out _) 2).trans rfl, (blk_cell (blk_alloc BK302.out _) 3).trans rfl, (blk_cell (blk_alloc BK302.out _) 4).trans rfl, (blk_cell (blk_alloc BK302.out _) 5).trans rfl, (blk_cell (blk_alloc BK302.out _) 6).trans rfl, (World.cell?_alloc_lt _ _ _ (World.block_lt_of_cell? _ _ (((hbc HB.out hw311_0 :))))).trans (((hbc HB.out hw311_0 :)))⟩ (fun hHeld => ?_)
                clear hK K
                refine norm_ (a' := ?_) ?_ ?_
                rotate_left
                ·
                 show Act.put _ (some 95) _ = _
                 simp only [Act.put, List.setIfInBounds_toArray, List.set_cons_zero, List.set_cons_succ, i64_w, i32_w]
                 rfl
                refine one_ (i := 11) (N := some 96) #[true, true, true, true, true, true, true, true, true, true, true, true, false, false] rfl rfl (one_of HT_.out (by kernel_rfl)) (by decide) (fun K hK => ?_)
                refine Kd.N_append_step k49 (w0 := w) w.heap.size (by rfl) (.tmp 86) (.tmp 95) 44 49 (.agg #[(.string ⟨#[]⟩), (.int .i64 0), (.bool false), (.int .i64 0), (.string ⟨#[]⟩), (.string ⟨#[]⟩), (.string ⟨#[]⟩), (.slice none 0 0)]) 112 rfl Try.underlying44 info49 rfl (by decide) (by omega) u282003 x282003_3 (⟨t312, (⟨t293, t294, t295, t296, (⟨t297, t298⟩ : S28), t299⟩ : S31)⟩ : S49) [.string t312, .int .i64 t293, .bool t294, .int .i64 t295, .string t296, .string t297, .string t298, .slice Ao91 t299.length co91] (fun k_ => (w.heap.size ≤ k_) ∧ some k_ ≠ (u282002 : Value).ownBlock ∧ k_ ≠ gb274 ∧ k_ ≠ gb275 ∧ k_ ≠ gb281 ∧ k_ ≠ gb302) (fun k_ => ((fun k_ => (w.heap.size ≤ k_) ∧ some k_ ≠ (u282002 : Value).ownBlock ∧ k_ ≠ gb274 ∧ k_ ≠ gb275 ∧ k_ ≠ gb281 ∧ k_ ≠ gb302)) k_ ∧ some k_ ≠ (u282003 : Value).ownBlock) rfl rfl ?aP (fun _ hk => hk) ?aF ?aO ?aB ?aS ?aL ?_
                (case aP => exact (k49_mkF _ _ (⟨t312, (⟨t293, t294, t295, t296, (⟨t297, t298⟩ : S28), t299⟩ : S31)⟩ : S49) (Kd.N_reads' (Kd.N_mono (ok' := (fun k_ => ((fun k_ => (w.heap.size ≤ k_) ∧ some k_ ≠ (u282002 : Value).ownBlock ∧ k_ ≠ gb274 ∧ k_ ≠ gb275 ∧ k_ ≠ gb281 ∧ k_ ≠ gb302)) k_ ∧ some k_ ≠ (u282003 : Value).ownBlock)) (HO301.out) (fun k_ hk => ⟨⟨hk.1, ⟨hk.2.1, ⟨hk.2.2.2.1, ⟨hk.2.2.2.2.1, ⟨hk.2.2.2.2.2.1, hk.2.2.2.2.2.2⟩⟩⟩⟩⟩, hk.2.2.1⟩))).2.1 (Kd.N_F (Kd.N_mono (ok' := (fun k_ => ((fun k_ => (w.heap.size ≤ k_) ∧ some k_ ≠ (u282002 : Value).ownBlock ∧ k_ ≠ gb274 ∧ k_ ≠ gb275 ∧ k_ ≠ gb281 ∧ k_ ≠ gb302)) k_ ∧ some k_ ≠ (u282003 : Value).ownBlock)) (HO301.out) (fun k_ hk => ⟨⟨hk.1, ⟨hk.2.1, ⟨hk.2.2.2.1, ⟨hk.2.2.2.2.1, ⟨hk.2.2.2.2.2.1, hk.2.2.2.2.2.2⟩⟩⟩⟩⟩, hk.2.2.1⟩)))))
                (case aB => exact (bl4 HB GE274 GE275 GE281 GE302))
                (case aF => exact (fun k_ hk => ⟨(Nat.le_trans (below_size (bl4 HB GE274 GE275 GE281 GE302)) hk), Kd.fresh' (Kd.R_lt (kR HO_282002)) k_ hk, Kd.freshB (g := gb274) (o := .cells #[.int .i64 a0_0, .int .i64 a0_1, .slice A0_2 l0_2.length c0_2, .slice (some ad311) l0_3.length c0_3, .slice (some ad292) l0_4.length c0_4] 42 (0, 0)) (bk BK274) k_ hk, Kd.freshB (g := gb275) (o := .cells #[.string (⟨#[]⟩ : ByteArray), .string (⟨#[]⟩ : ByteArray), .slice none 0 0, .slice none 0 0] 46 (0, 0)) (bk BK275) k_ hk, Kd.freshB (g := gb281) (o := .cells #[.string t276, .string (strOfNums y278), u282002, u282003] 46 (0, 0)) (bk BK281) k_ hk, Kd.freshB (g := gb302) (o := .cells #[.int .i64 t293, .bool t294, .int .i64 t295, .string t296, .string t297, .string t298, .slice Ao91 t299.length co91] 31 (0, 0)) (bk BK302) k_ hk⟩))
                (case aO => exact (by (with_reducible repeat (first | apply Kd.N_alloc | apply Kd.N_drewN | apply Kd.N_drew)); exact Kd.N_mono HO_282003.out (fun _ hk => ⟨hk.1, ⟨hk.2.1, ⟨hk.2.2.2.1, ⟨hk.2.2.2.2.1, ⟨hk.2.2.2.2.2.1, hk.2.2.2.2.2.2⟩⟩⟩⟩⟩)))
                (case aS => exact (below_size (bl4 HB GE274 GE275 GE281 GE302)))
                (case aL => have := LMc81.out; omega)
                intro v314 w95 ho hb hg hat
                rw [← Ny313.out] at ho
                replace HO_282002 := aZ_ (Kd.R_over' (kR HO_282002) (Kd.N_typed (kN HO_282003)) (by decide) hg)
                replace BK274 := aZ_ (blk_grown (g := gb274) (o := .cells #[.int .i64 a0_0, .int .i64 a0_1, .slice A0_2 l0_2.length c0_2, .slice (some ad311) l0_3.length c0_3, .slice (some ad292) l0_4.length c0_4] 42 (0, 0)) (bk BK274) hg (Kd.N_ne HO_282003.out BK274.out (by decide)))
                replace BK275 := aZ_ (blk_grown (g := gb275) (o := .cells #[.string (⟨#[]⟩ : ByteArray), .string (⟨#[]⟩ : ByteArray), .slice none 0 0, .slice none 0 0] 46 (0, 0)) (bk BK275) hg (Kd.N_ne HO_282003.out BK275.out (by decide)))
                replace BK281 := aZ_ (blk_grown (g := gb281) (o := .cells #[.string t276, .string (strOfNums y278), u282002, u282003] 46 (0, 0)) (bk BK281) hg (Kd.N_ne HO_282003.out BK281.out (by decide)))
                replace BK302 := aZ_ (blk_grown (g := gb302) (o := .cells #[.int .i64 t293, .bool t294, .int .i64 t295, .string t296, .string t297, .string t298, .slice Ao91 t299.length co91] 31 (0, 0)) (bk BK302) hg (Kd.N_ne HO_282003.out BK302.out (by decide)))
                replace HB := aZ_ (hb)
                have HO315 := aZ_ (ho)
                clear HO_282003 HO301
                clear ho hb hg hat
                obtain ⟨Ao96, co96, eo96⟩ := Kd.N_slice HO315.out
                (first | subst eo96 | (injection eo96 with f1_ f2_ f3_; have f4_ := f1_.symm; have f5_ := f3_.symm; clear f1_ f2_ f3_; subst f4_; subst f5_))
                refine hK.out _ _ ⟨(blk_cell BK281.out 0).trans rfl, (blk_cell BK281.out 1).trans rfl, (blk_cell BK281.out 2).trans rfl, (blk_cell BK281.out 3).trans rfl, (blk_cell BK274.out 0).trans rfl, (blk_cell BK274.out 1).trans rfl, (blk_cell BK274.out 2).trans rfl, (blk_cell BK274.out 3).trans rfl, (blk_cell BK274.out 4).trans rfl, (blk_cell BK302.out 0).trans rfl, (blk_cell BK302.out 1).trans rfl, (blk_cell BK302.out 2).trans rfl, (blk_cell BK302.out 3).trans rfl, (blk_cell BK302.out 4).trans rfl, (blk_cell BK302.out 5).trans rfl, (blk_cell BK302.out 6).trans rfl, ((hbc HB.out hw311_0 :))⟩ (fun hHeld => ?_)
                clear hK K
                refine norm_ (a' := ?_) ?_ ?_
                rotate_left
                ·
                 show Act.put _ (some 96) _ = _
                 simp only [Act.put, List.setIfInBounds_toArray, List.set_cons_zero, List.set_cons_succ, i64_w, i32_w]
                 rfl
                refine pS_ 12 97 (fa 14 8191) HT_ ?_
                refine last_ (i := 13) (N := none) #[true, true, true, true, true, true, true, true, true, true, true, true, true, true] rfl rfl (one_of HT_.out (by kernel_rfl)) (by decide) (fun K hK => ?_)
                have hs97 : w95.cell? ⟨gb281, 3, none⟩ = some (u282003) := (blk_cell BK281.out 3).trans rfl
                have hfs97 := blk_frozen BK281.out 3
                have hns97_0 := NB274_281.out
                have hns97_1 := NB275_281.out
                have hns97_3 := NB302_281.out
                have hms97_0 := NB281_274.out
                have hms97_1 := NB281_275.out
                have hms97_3 := NB281_302.out
                refine skip_ (w1 := ?_) (by rfl) rfl ?_ ?_
                rotate_left
                ·
                 go_simp
                 rfl
                refine hK.out _ _ ?_
                clear hK K
                refine done_ (done_of HT_.out (by kernel_rfl)) ?_
                try go_wp2
                go_roundg kj38
                case measure => have := HK1.out; have := HJ16.out; have := HK3.out; have := HJ38.out; omega
                case rel => exact ⟨(wrap64 (x5_3 + 1)), (y313), (.slice Ao96 y313.length co96), rf_, H', ⟨by have := HK1.out; have := HJ16.out; have := HK3.out; have := HJ38.out; omega⟩, ⟨by (with_reducible repeat (first | apply Kd.R_alloc | apply Kd.R_drewN | apply Kd.R_drew)); exact Kd.R_mono (Kd.R_far (p := ⟨gb281, 3, none⟩) (Kd.R_types HO_282002.out BK281.out (by decide)) (fun _ hk => hk.2) (.slice Ao96 y313.length co96)) (fun _ hk => hk.1)⟩, ⟨by (with_reducible repeat (first | apply Kd.N_alloc | apply Kd.N_drewN | apply Kd.N_drew)); exact Kd.N_mono (Kd.N_far (p := ⟨gb281, 3, none⟩) (Kd.N_mono HO315.out (fun k_ hk => (⟨hk, hk.2.2.2.2.1⟩ : _ ∧ k_ ≠ gb281))) (fun _ hk => hk.2) (.slice Ao96 y313.length co96)) (fun _ hk => by first | exact ⟨hk.1.1, ⟨hk.1.2.1, ⟨hk.1.2.2.1, ⟨hk.1.2.2.2.1, hk.1.2.2.2.2.1⟩⟩⟩⟩ | (simp only [own_nf] at hk ⊢; exact ⟨hk.1.1, ⟨hk.1.2.1, ⟨hk.1.2.2.1, ⟨hk.1.2.2.2.1, hk.1.2.2.2.2.1⟩⟩⟩⟩))⟩, ⟨by (with_reducible repeat (first | refine blk_drewN ?_ _ | refine blk_drew ?_ | refine blk_alloc ?_ _)); refine blk_far ?_ NB274_281.out _; (with_reducible repeat (first | refine blk_drewN ?_ _ | refine blk_drew ?_ | refine blk_alloc ?_ _)); exact BK274.out⟩, ⟨by (with_reducible repeat (first | refine blk_drewN ?_ _ | refine blk_drew ?_ | refine blk_alloc ?_ _)); refine blk_far ?_ NB275_281.out _; (with_reducible repeat (first | refine blk_drewN ?_ _ | refine blk_drew ?_ | refine blk_alloc ?_ _)); exact BK275.out⟩, ⟨by (with_reducible repeat (first | refine blk_drewN ?_ _ | refine blk_drew ?_ | refine blk_alloc ?_ _)); refine blk_put (cs := #[.string t276, .string (strOfNums y278), u282002, u282003]) ?_ 3 _ rfl; (with_reducible repeat (first | refine blk_drewN ?_ _ | refine blk_drew ?_ | refine blk_alloc ?_ _)); exact BK281.out⟩, ⟨bl4 HB GE274 GE275 GE281 GE302⟩⟩
               ·
                rw [if_neg c81] at H
                exact absurd H (by simp)
              ·
               rw [if_neg c79] at H
               exact absurd H (by simp)
            ·
             rw [if_neg c53] at H
             exact absurd H (by simp)
           ·
            rw [if_neg c52] at H
            exact absurd H (by simp)
          ·
           replace c51 := Bool.eq_false_iff.mpr c51
           subst c51
           have H1 : (some (t276, (strOfNums y278), x282002_1, x282003_3)) = some (r1, r2, r3, r4) := by rw [if_neg (show ¬ (false = true) by decide)] at H; exact H
           clear H
           have H := H1
           clear H1
           simp only [Option.some.injEq, Prod.mk.injEq] at H
           obtain ⟨rfl, rfl, rfl, rfl⟩ := H
           have hnb98 := NB281_274.out
           have hnc98 := NB274_281.out
           have hnb99 := NB281_275.out
           have hnc99 := NB275_281.out
           obtain ⟨hcz100_0, hcz100_1, hcz100_2, hcz100_3, hfz100_0, hfz100_1, hfz100_2, hfz100_3⟩ := bc4 BK281
           have hnb101 := NB275_274.out
           have hnc101 := NB274_275.out
           obtain ⟨hcz102_0, hcz102_1, hcz102_2, hcz102_3, hfz102_0, hfz102_1, hfz102_2, hfz102_3⟩ := bc4 BK275
           obtain ⟨Ao103, co103, eo103⟩ := Kd.R_slice HO_282002.out
           subst eo103
           obtain ⟨Ao104, co104, eo104⟩ := Kd.N_slice HO_282003.out
           subst eo104
           go_wp2
           refine bodyPost_ret (results_cell_row rfl _ _ gb275 46 #[.string t276, .string (strOfNums y278), .slice Ao103 x282002_1.length co103, .slice Ao104 x282003_3.length co104] (0, 0) _ rfl (by (with_reducible repeat (first | refine blk_drewN ?_ _ | refine blk_drew ?_ | refine blk_alloc ?_ _)); refine blk_put (cs := #[.string t276, .string (strOfNums y278), .slice Ao103 x282002_1.length co103, .slice none 0 0]) ?_ 3 _ rfl; (with_reducible repeat (first | refine blk_drewN ?_ _ | refine blk_drew ?_ | refine blk_alloc ?_ _)); refine blk_put (cs := #[.string t276, .string (strOfNums y278), .slice none 0 0, .slice none 0 0]) ?_ 2 _ rfl; (with_reducible repeat (first | refine blk_drewN ?_ _ | refine blk_drew ?_ | refine blk_alloc ?_ _)); refine blk_put (cs := #[.string t276, .string (⟨#[]⟩ : ByteArray), .slice none 0 0, .slice none 0 0]) ?_ 1 _ rfl; (with_reducible repeat (first | refine blk_drewN ?_ _ | refine blk_drew ?_ | refine blk_alloc ?_ _)); refine blk_put (cs := #[.string (⟨#[]⟩ : ByteArray), .string (⟨#[]⟩ : ByteArray), .slice none 0 0, .slice none 0 0]) ?_ 0 _ rfl; (with_reducible repeat (first | refine blk_drewN ?_ _ | refine blk_drew ?_ | refine blk_alloc ?_ _)); exact BK275.out) Try.underlying46 rfl (by kernel_rfl)) rfl ?_
           exact ⟨_, _, by first | rfl | (simp [errW_none, errW_some] <;> rfl) | (simp [*, errW_none, errW_some] <;> rfl), by (with_reducible repeat (first | apply Kd.R_alloc | apply Kd.R_drewN | apply Kd.R_drew)); exact Kd.R_mono (Kd.R_far (p := ⟨gb275, 3, none⟩) (Kd.R_far (p := ⟨gb275, 2, none⟩) (Kd.R_far (p := ⟨gb275, 1, none⟩) (Kd.R_far (p := ⟨gb275, 0, none⟩) (Kd.R_types HO_282002.out BK275.out (by decide)) (fun _ hk => hk.2) (.string t276)) (fun _ hk => hk.2) (.string (strOfNums y278))) (fun _ hk => hk.2) (.slice Ao103 x282002_1.length co103)) (fun _ hk => hk.2) (.slice Ao104 x282003_3.length co104)) (fun _ hk => hk.1), by (with_reducible repeat (first | apply Kd.N_alloc | apply Kd.N_drewN | apply Kd.N_drew)); exact Kd.N_mono (Kd.N_far (p := ⟨gb275, 3, none⟩) (Kd.N_far (p := ⟨gb275, 2, none⟩) (Kd.N_far (p := ⟨gb275, 1, none⟩) (Kd.N_far (p := ⟨gb275, 0, none⟩) (Kd.N_mono HO_282003.out (fun k_ hk => (⟨hk, hk.2.2.2.1⟩ : _ ∧ k_ ≠ gb275))) (fun _ hk => hk.2) (.string t276)) (fun _ hk => hk.2) (.string (strOfNums y278))) (fun _ hk => hk.2) (.slice Ao103 x282002_1.length co103)) (fun _ hk => hk.2) (.slice Ao104 x282003_3.length co104)) (fun _ hk => ⟨hk.1.1, hk.1.2.1⟩), bl3 HB GE274 GE275 GE281⟩

end Go.Proofs.Ytfmghijmcgkpiaa.GO
