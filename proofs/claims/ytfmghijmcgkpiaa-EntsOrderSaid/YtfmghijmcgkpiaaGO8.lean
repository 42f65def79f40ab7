-- Written by wip/tools/gprint.py over the kit's printer.
import Derived.Test.YtfmghijmcgkpiaaGO0
import Derived.Test.YtfmghijmcgkpiaaGO2
import Derived.Test.YtfmghijmcgkpiaaGO3
import Derived.Test.YtfmghijmcgkpiaaGO7
import Derived.Test.YtfmghijmcgkpiaaSqz
namespace Go.Proofs.Ytfmghijmcgkpiaa.GO
open Go.RowKit Go.Proofs.YtfmghijmcgkpiaaW.PrintWords Go.Proofs.YtfmghijmcgkpiaaW.PrintLast Go.Proofs.Ytfmghijmcgkpiaa.HandV Go.Proofs.YtfmghijmcgkpiaaW.PrintMore
attribute [local go_sem] max2_int min2_int max_two min_two max_three min_three max_four min_four   -- for this text's walks alone
set_option linter.unusedVariables false
set_option linter.unusedSimpArgs false

/-! ### chancellaw3_Good: function 16 -/
mutual
def chancellaw3_Good.l0 : Nat → List (S31) → Int → Int → Int → List Int → List (S25) → Option (Int × Bool × Int × ByteArray × ByteArray × ByteArray × (List (S31)))
 | 0, _, _, _, _, _, _ => none
 | k + 1, x4, x5, x228000, x228001, x228002, x228003 => if x5 < (x228003.length : Int) then (chancellaw3_Good.j1 k x4 x5 (decide (x5 < 8)) x228000 x228001 x228002 x228003) else (chancellaw3_Good.j1 k x4 x5 false x228000 x228001 x228002 x228003)
def chancellaw3_Good.j1 : Nat → List (S31) → Int → Bool → Int → Int → List Int → List (S25) → Option (Int × Bool × Int × ByteArray × ByteArray × ByteArray × (List (S31)))
 | 0, _, _, _, _, _, _, _ => none
 | k + 1, x4, x5, x25, x228000, x228001, x228002, x228003 => if x25 = true then (if 0 ≤ x5 then (if x5 < (x228003.length : Int) then ((chancellaw3_within.f (wrap64 (Int.tdiv x228000 5)) 4).bind fun t240 => ((chancellaw3_Plain.f k ((rd_T25 x228003 x5).f0) ((rd_T25 x228003 x5).f1) ((rd_T25 x228003 x5).f2) ((rd_T25 x228003 x5).f3) (wrap64 (1 + t240))).bind fun bt241 => (if x4.length < 1466015503701 then (chancellaw3_Good.l0 k (x4 ++ [(⟨bt241.1, bt241.2.1, bt241.2.2.1, bt241.2.2.2.1, (⟨bt241.2.2.2.2.1, bt241.2.2.2.2.2.1⟩ : S28), bt241.2.2.2.2.2.2⟩ : S31)]) (wrap64 (x5 + 1)) x228000 x228001 x228002 x228003) else (none)))) else (none)) else (none)) else ((chancelref3_Set.f k x4).bind fun bt253 => (some (bt253.1, bt253.2.1, bt253.2.2.1, bt253.2.2.2.1, bt253.2.2.2.2.1, bt253.2.2.2.2.2.1, bt253.2.2.2.2.2.2.1)))
end
def chancellaw3_Good.f (k : Nat) (a0_0 : Int) (a0_1 : Int) (l0_2 : List Int) (l0_3 : List (S25)) : Option (Int × Bool × Int × ByteArray × ByteArray × ByteArray × (List (S31))) := (chancellaw3_within.f a0_0 5).bind fun t229 => (if (wrap64 (1 + t229)) < 5 then ((chancellaw3_Plain.f k a0_0 a0_1 l0_2 l0_3 (wrap64 (1 + t229))).bind fun bt230 => (some (bt230.1, bt230.2.1, bt230.2.2.1, bt230.2.2.2.1, bt230.2.2.2.2.1, bt230.2.2.2.2.2.1, bt230.2.2.2.2.2.2))) else (chancellaw3_Good.l0 k ([] : List (S31)) 0 a0_0 a0_1 l0_2 l0_3))
theorem chancellaw3_Good.mono_l : ∀ k, (∀ y0 y1 y2 y3 y4 y5, LeO (chancellaw3_Good.l0 k y0 y1 y2 y3 y4 y5) (chancellaw3_Good.l0 (k + 1) y0 y1 y2 y3 y4 y5)) ∧ (∀ y0 y1 y2 y3 y4 y5 y6, LeO (chancellaw3_Good.j1 k y0 y1 y2 y3 y4 y5 y6) (chancellaw3_Good.j1 (k + 1) y0 y1 y2 y3 y4 y5 y6))
 | 0 => ⟨fun _ _ _ _ _ _ r h => by simp [chancellaw3_Good.l0] at h, fun _ _ _ _ _ _ _ r h => by simp [chancellaw3_Good.j1] at h⟩
 | k + 1 => by
  obtain ⟨ih0, ih1⟩ := chancellaw3_Good.mono_l k
  refine ⟨?_, ?_⟩
  ·
   intro y0 y1 y2 y3 y4 y5
   unfold chancellaw3_Good.l0
   repeat' first
   | (with_reducible exact ih0 _ _ _ _ _ _)
   | (with_reducible exact ih1 _ _ _ _ _ _ _)
   | (with_reducible exact chancellaw3_Plain.mono _ _ _ _ _ _)
   | (with_reducible exact chancelref3_Set.mono _ _)
   | (with_reducible exact LeO.refl _)
   | (with_reducible exact LeO.none _)
   | (with_reducible refine LeO.ite ?_ ?_)
   | (with_reducible refine LeO.bind ?_ (fun _ => ?_))
   | exact ih0 _ _ _ _ _ _
   | exact ih1 _ _ _ _ _ _ _
   | exact chancellaw3_Plain.mono _ _ _ _ _ _
   | exact chancelref3_Set.mono _ _
   | exact LeO.none _
   | refine LeO.ite ?_ ?_
   | refine LeO.bind ?_ (fun _ => ?_)
  ·
   intro y0 y1 y2 y3 y4 y5 y6
   unfold chancellaw3_Good.j1
   repeat' first
   | (with_reducible exact ih0 _ _ _ _ _ _)
   | (with_reducible exact ih1 _ _ _ _ _ _ _)
   | (with_reducible exact chancellaw3_Plain.mono _ _ _ _ _ _)
   | (with_reducible exact chancelref3_Set.mono _ _)
   | (with_reducible exact LeO.refl _)
   | (with_reducible exact LeO.none _)
   | (with_reducible refine LeO.ite ?_ ?_)
   | (with_reducible refine LeO.bind ?_ (fun _ => ?_))
   | exact ih0 _ _ _ _ _ _
   | exact ih1 _ _ _ _ _ _ _
   | exact chancellaw3_Plain.mono _ _ _ _ _ _
   | exact chancelref3_Set.mono _ _
   | exact LeO.none _
   | refine LeO.ite ?_ ?_
   | refine LeO.bind ?_ (fun _ => ?_)
theorem chancellaw3_Good.mono : ∀ a0 a1 a2 a3 k, LeO (chancellaw3_Good.f k a0 a1 a2 a3) (chancellaw3_Good.f (k + 1) a0 a1 a2 a3) := by
 intro a0 a1 a2 a3 k
 obtain ⟨ih0, ih1⟩ := chancellaw3_Good.mono_l k
 unfold chancellaw3_Good.f
 repeat' first
   | (with_reducible exact ih0 _ _ _ _ _ _)
   | (with_reducible exact ih1 _ _ _ _ _ _ _)
   | (with_reducible exact chancellaw3_Plain.mono _ _ _ _ _ _)
   | (with_reducible exact chancelref3_Set.mono _ _)
   | (with_reducible exact LeO.refl _)
   | (with_reducible exact LeO.none _)
   | (with_reducible refine LeO.ite ?_ ?_)
   | (with_reducible refine LeO.bind ?_ (fun _ => ?_))
   | exact ih0 _ _ _ _ _ _
   | exact ih1 _ _ _ _ _ _ _
   | exact chancellaw3_Plain.mono _ _ _ _ _ _
   | exact chancelref3_Set.mono _ _
   | exact LeO.none _
   | refine LeO.ite ?_ ?_
   | refine LeO.bind ?_ (fun _ => ?_)
def chancellaw3_Good.T8 : Bool × List (List Nat × List Nat) := (true, [([], []), ([], []), ([1], [1]), ([], []), ([2, 3], [2, 3]), ([4], [4]), ([], []), ([6], [6]), ([7], [7]), ([8], [8]), ([9], [9]), ([5, 10, 9], [5, 10]), ([11], [11]), ([0, 12, 11], [0, 12]), ([13, 13, 0, 1, 2, 3, 4, 5, 6, 7, 8, 9, 10, 11, 12, 13], [0, 13])])
def chancellaw3_Good.B8 : List Nat := [0, 0, 2, 0, 14, 30, 0, 64, 192, 448, 960, 2046, 4094, 8191, 16383]
theorem chancellaw3_Good.tab8 : rtab .any (opsOf Try.f16 8) = chancellaw3_Good.T8 := by kernel_rfl
theorem chancellaw3_Good.bits8 : waitsOk chancellaw3_Good.T8.2 chancellaw3_Good.B8 = true := by kernel_rfl
set_option maxHeartbeats 8000000 in
set_option maxRecDepth 100000 in
theorem chancellaw3_Good.calls (k : Nat) (a0_0 : Int) (a0_1 : Int) (A0_2 : Option Addr) (c0_2 : Nat) (l0_2 : List Int) (A0_3 : Option Addr) (c0_3 : Nat) (l0_3 : List (S25)) (r1 : Int) (r2 : Bool) (r3 : Int) (r4 : ByteArray) (r5 : ByteArray) (r6 : ByteArray) (r7 : List (S31)) (w : World) (hr0_2 : Kd.C (Kd.int .i64) w A0_2 l0_2.length l0_2) (hc0_2 : l0_2.length ≤ c0_2) (hr0_3 : Kd.C k25 w A0_3 l0_3.length l0_3) (hc0_3 : l0_3.length ≤ c0_3) (h : chancellaw3_Good.f k a0_0 a0_1 l0_2 l0_3 = some (r1, r2, r3, r4, r5, r6, r7)) :
  Calls Try.prog 16 #[.agg #[.int .i64 a0_0, .int .i64 a0_1, .slice A0_2 l0_2.length c0_2, .slice A0_3 l0_3.length c0_3]] w fun e w' => ∃ v6_ : Value, e = .returned (.agg #[.int .i64 r1, .bool r2, .int .i64 r3, .string r4, .string r5, .string r6, v6_]) ∧ Kd.N k31 31 w' w.heap.size (fun k_ => (w.heap.size ≤ k_)) v6_ r7 ∧ Below w.heap.size w w' := by
 have hu25 := Try.underlying25
 have hu31 := Try.underlying31
 have HR0_2 := aZ_ hr0_2
 have HC0_2 := aZ_ hc0_2
 clear hr0_2 hc0_2
 have HR0_3 := aZ_ hr0_3
 have HC0_3 := aZ_ hc0_3
 clear hr0_3 hc0_3
 have HB := aZ_ (Below.refl w.heap.size w)
 have H : ((chancellaw3_within.f a0_0 5).bind fun t229 => (if (wrap64 (1 + t229)) < 5 then ((chancellaw3_Plain.f k a0_0 a0_1 l0_2 l0_3 (wrap64 (1 + t229))).bind fun bt230 => (some (bt230.1, bt230.2.1, bt230.2.2.1, bt230.2.2.2.1, bt230.2.2.2.2.1, bt230.2.2.2.2.2.1, bt230.2.2.2.2.2.2))) else (chancellaw3_Good.l0 k ([] : List (S31)) 0 a0_0 a0_1 l0_2 l0_3))) = some (r1, r2, r3, r4, r5, r6, r7) := h
 clear h
 replace H := Option.bind_eq_some_iff.mp H
 obtain ⟨t229, A20, H⟩ := H
 replace H : (if (wrap64 (1 + t229)) < 5 then ((chancellaw3_Plain.f k a0_0 a0_1 l0_2 l0_3 (wrap64 (1 + t229))).bind fun bt230 => (some (bt230.1, bt230.2.1, bt230.2.2.1, bt230.2.2.2.1, bt230.2.2.2.2.1, bt230.2.2.2.2.2.1, bt230.2.2.2.2.2.2))) else (chancellaw3_Good.l0 k ([] : List (S31)) 0 a0_0 a0_1 l0_2 l0_3)) = some (r1, r2, r3, r4, r5, r6, r7) := H
 have A2 := aZ_ A20
 clear A20
 by_cases c3 : (wrap64 (1 + t229)) < 5
 ·
  rw [if_pos c3] at H
  have c3b0 : decide ((wrap64 (1 + t229)) < 5) = true := decide_eq_true c3
  clear c3
  replace H := Option.bind_eq_some_iff.mp H
  obtain ⟨⟨t230, t231, t232, t233, t234, t235, t236⟩, A40, H⟩ := H
  replace H : (some (t230, t231, t232, t233, t234, t235, t236)) = some (r1, r2, r3, r4, r5, r6, r7) := H
  have A4 := aZ_ A40
  clear A40
  simp only [Option.some.injEq, Prod.mk.injEq] at H
  obtain ⟨rfl, rfl, rfl, rfl, rfl, rfl, rfl⟩ := H
  go_enter Try.func16, Try.ntmps16
  go_wp2_with (first | ((with_reducible refine gate_dst (N := 1) rfl ?_); refine bxE 1 #[.int .i64 a0_0, .int .i64 a0_1, .slice A0_2 l0_2.length c0_2, .slice A0_3 l0_3.length c0_3] 25 ?_; intro gb227 hg w5 hbox hb; have BK227 := aZ_ (hbox); have GW227 := aZ_ ((by rw [hg]; exact (below_size (bl HB)) : w.heap.size ≤ gb227)); have GE227 := aZ_ ((by rw [hg]; exact (below_size (bl HB)) : w.heap.size ≤ gb227)); replace HB := aZ_ (below_step (bl HB) hb); clear hb hbox hg) | ((with_reducible refine gate_dst (N := 2) rfl ?_); refine bxE 2 #[.int .i64 0, .bool false, .int .i64 0, .string (⟨#[]⟩ : ByteArray), .string (⟨#[]⟩ : ByteArray), .string (⟨#[]⟩ : ByteArray), .slice none 0 0] 31 ?_; intro gb228 hg w6 hbox hb; have BK228 := aZ_ (hbox); have GW228 := aZ_ ((by rw [hg]; exact (below_size (bl1 HB GE227)) : w.heap.size ≤ gb228)); have GE228 := aZ_ ((by rw [hg]; exact (below_size (bl1 HB GE227)) : w.heap.size ≤ gb228)); replace HB := aZ_ (below_step (bl1 HB GE227) hb); have NB227_228 := aZ_ ((by rw [hg]; exact Nat.ne_of_lt (blk_lt (g := gb227) (o := .cells #[.int .i64 a0_0, .int .i64 a0_1, .slice A0_2 l0_2.length c0_2, .slice A0_3 l0_3.length c0_3] 25 (0, 0)) (bk BK227)) : gb227 ≠ gb228)); have NB228_227 := aZ_ ((by rw [hg]; exact Nat.ne_of_gt (blk_lt (g := gb227) (o := .cells #[.int .i64 a0_0, .int .i64 a0_1, .slice A0_2 l0_2.length c0_2, .slice A0_3 l0_3.length c0_3] 25 (0, 0)) (bk BK227)) : gb228 ≠ gb227)); replace BK227 := aZ_ (blk_below (g := gb227) (o := .cells #[.int .i64 a0_0, .int .i64 a0_1, .slice A0_2 l0_2.length c0_2, .slice A0_3 l0_3.length c0_3] 25 (0, 0)) (bk BK227) hb); clear hb hbox hg; have hnb7 := NB227_228.out; have hnc7 := NB228_227.out; obtain ⟨hcz8_0, hcz8_1, hcz8_2, hcz8_3, hfz8_0, hfz8_1, hfz8_2, hfz8_3⟩ := bc4 BK227) | ((with_reducible refine gate_callee (f := 19) rfl ?_); refine goesL_ (some 10) rfl rfl Try.func19 (by kernel_rfl) rfl #[.int .i64 a0_0, .int .i64 5] rfl gm_ ?_; (with_reducible refine (chancellaw3_within.calls a0_0 5 t229 _ A2.out).mono ?_); rintro e w' ⟨rfl, ⟨nd, rfl⟩⟩; refine ⟨_, rfl, ?_⟩; (try (rw [drewN_self w6]; generalize hq_ : World.drewN w6 _ = w6; have n0_ : Aside0 (w6.heap[gb227]? = some (.cells #[.int .i64 a0_0, .int .i64 a0_1, .slice A0_2 l0_2.length c0_2, .slice A0_3 l0_3.length c0_3] 25 (0, 0))) := ⟨by rw [← hq_]; exact (bk BK227)⟩; have n1_ : Aside0 (w6.heap[gb228]? = some (.cells #[.int .i64 0, .bool false, .int .i64 0, .string (⟨#[]⟩ : ByteArray), .string (⟨#[]⟩ : ByteArray), .string (⟨#[]⟩ : ByteArray), .slice none 0 0] 31 (0, 0))) := ⟨by rw [← hq_]; exact (bk BK228)⟩; have n2_ : Aside0 (Below w.heap.size w w6) := ⟨by rw [← hq_]; exact (bl2 HB GE227 GE228)⟩; clear BK227 BK228 HB hq_; have BK227 := n0_; have BK228 := n1_; have HB := n2_; clear n0_ n1_ n2_; (try (have hqz227_0 : w6.cell? ⟨gb227, 0, none⟩ = some (.int .i64 a0_0) := (blk_cell BK227.out 0).trans rfl; have hqf227_0 := blk_frozen BK227.out 0; have hqz227_1 : w6.cell? ⟨gb227, 1, none⟩ = some (.int .i64 a0_1) := (blk_cell BK227.out 1).trans rfl; have hqf227_1 := blk_frozen BK227.out 1; have hqz227_2 : w6.cell? ⟨gb227, 2, none⟩ = some (.slice A0_2 l0_2.length c0_2) := (blk_cell BK227.out 2).trans rfl; have hqf227_2 := blk_frozen BK227.out 2; have hqz227_3 : w6.cell? ⟨gb227, 3, none⟩ = some (.slice A0_3 l0_3.length c0_3) := (blk_cell BK227.out 3).trans rfl; have hqf227_3 := blk_frozen BK227.out 3; have hqz228_0 : w6.cell? ⟨gb228, 0, none⟩ = some (.int .i64 0) := (blk_cell BK228.out 0).trans rfl; have hqf228_0 := blk_frozen BK228.out 0; have hqz228_1 : w6.cell? ⟨gb228, 1, none⟩ = some (.bool false) := (blk_cell BK228.out 1).trans rfl; have hqf228_1 := blk_frozen BK228.out 1; have hqz228_2 : w6.cell? ⟨gb228, 2, none⟩ = some (.int .i64 0) := (blk_cell BK228.out 2).trans rfl; have hqf228_2 := blk_frozen BK228.out 2; have hqz228_3 : w6.cell? ⟨gb228, 3, none⟩ = some (.string (⟨#[]⟩ : ByteArray)) := (blk_cell BK228.out 3).trans rfl; have hqf228_3 := blk_frozen BK228.out 3; have hqz228_4 : w6.cell? ⟨gb228, 4, none⟩ = some (.string (⟨#[]⟩ : ByteArray)) := (blk_cell BK228.out 4).trans rfl; have hqf228_4 := blk_frozen BK228.out 4; have hqz228_5 : w6.cell? ⟨gb228, 5, none⟩ = some (.string (⟨#[]⟩ : ByteArray)) := (blk_cell BK228.out 5).trans rfl; have hqf228_5 := blk_frozen BK228.out 5; have hqz228_6 : w6.cell? ⟨gb228, 6, none⟩ = some (.slice none 0 0) := (blk_cell BK228.out 6).trans rfl; have hqf228_6 := blk_frozen BK228.out 6))))) | ((with_reducible refine gate_callee (f := 20) rfl ?_); refine goesL_ (some 16) rfl rfl Try.func20 (by kernel_rfl) rfl #[.agg #[.int .i64 a0_0, .int .i64 a0_1, .slice A0_2 l0_2.length c0_2, .slice A0_3 l0_3.length c0_3], .int .i64 (wrap64 (1 + t229))] rfl gm_ ?_; (with_reducible refine (chancellaw3_Plain.calls k a0_0 a0_1 _ _ l0_2 _ _ l0_3 (wrap64 (1 + t229)) t230 t231 t232 t233 t234 t235 t236 _ ?side1 ?side2 ?side3 ?side4 A4.out).mono ?_); (case side1 => exact kC (Kd.C_below HR0_2.out HB.out)); (case side2 => exact HC0_2.out); (case side3 => exact kC (Kd.C_below HR0_3.out HB.out)); (case side4 => exact HC0_3.out); rintro e w9 ⟨v237, rfl, ho0, hb⟩; refine ⟨_, rfl, ?_⟩; have HO238 := aZ_ (Kd.N_lower (Kd.N_mono (ok' := fun k_ => (w.heap.size ≤ k_) ∧ k_ ≠ gb227 ∧ k_ ≠ gb228) (Kd.R_N (Kd.R_bound ho0)) (fun k_ hk_ => ⟨(Nat.le_trans (below_size (bl2 HB GE227 GE228)) hk_.2.1), (Kd.freshB (g := gb227) (o := .cells #[.int .i64 a0_0, .int .i64 a0_1, .slice A0_2 l0_2.length c0_2, .slice A0_3 l0_3.length c0_3] 25 (0, 0)) (bk BK227) k_ hk_.2.1), (Kd.freshB (g := gb228) (o := .cells #[.int .i64 0, .bool false, .int .i64 0, .string (⟨#[]⟩ : ByteArray), .string (⟨#[]⟩ : ByteArray), .string (⟨#[]⟩ : ByteArray), .slice none 0 0] 31 (0, 0)) (bk BK228) k_ hk_.2.1)⟩)) (below_size (bl2 HB GE227 GE228))); replace BK227 := aZ_ (blk_below (g := gb227) (o := .cells #[.int .i64 a0_0, .int .i64 a0_1, .slice A0_2 l0_2.length c0_2, .slice A0_3 l0_3.length c0_3] 25 (0, 0)) (bk BK227) hb); replace BK228 := aZ_ (blk_below (g := gb228) (o := .cells #[.int .i64 0, .bool false, .int .i64 0, .string (⟨#[]⟩ : ByteArray), .string (⟨#[]⟩ : ByteArray), .string (⟨#[]⟩ : ByteArray), .slice none 0 0] 31 (0, 0)) (bk BK228) hb); replace HB := aZ_ (below_step (bl2 HB GE227 GE228) hb); (try clear hb); (try clear hb2); (try clear hk); (try clear hi); (try clear ho0); obtain ⟨hcz10_0, hcz10_1, hcz10_2, hcz10_3, hcz10_4, hcz10_5, hcz10_6, hfz10_0, hfz10_1, hfz10_2, hfz10_3, hfz10_4, hfz10_5, hfz10_6⟩ := bc7 BK228; obtain ⟨Ao11, co11, eo11⟩ := Kd.N_slice HO238.out; subst eo11))
  refine bodyPost_ret (results_cell_row rfl _ _ gb228 31 #[.int .i64 t230, .bool t231, .int .i64 t232, .string t233, .string t234, .string t235, .slice Ao11 t236.length co11] (0, 0) _ rfl (by (with_reducible repeat (first | refine blk_drewN ?_ _ | refine blk_drew ?_ | refine blk_alloc ?_ _)); refine blk_put (cs := #[.int .i64 t230, .bool t231, .int .i64 t232, .string t233, .string t234, .string t235, .slice none 0 0]) ?_ 6 _ rfl; (with_reducible repeat (first | refine blk_drewN ?_ _ | refine blk_drew ?_ | refine blk_alloc ?_ _)); refine blk_put (cs := #[.int .i64 t230, .bool t231, .int .i64 t232, .string t233, .string t234, .string (⟨#[]⟩ : ByteArray), .slice none 0 0]) ?_ 5 _ rfl; (with_reducible repeat (first | refine blk_drewN ?_ _ | refine blk_drew ?_ | refine blk_alloc ?_ _)); refine blk_put (cs := #[.int .i64 t230, .bool t231, .int .i64 t232, .string t233, .string (⟨#[]⟩ : ByteArray), .string (⟨#[]⟩ : ByteArray), .slice none 0 0]) ?_ 4 _ rfl; (with_reducible repeat (first | refine blk_drewN ?_ _ | refine blk_drew ?_ | refine blk_alloc ?_ _)); refine blk_put (cs := #[.int .i64 t230, .bool t231, .int .i64 t232, .string (⟨#[]⟩ : ByteArray), .string (⟨#[]⟩ : ByteArray), .string (⟨#[]⟩ : ByteArray), .slice none 0 0]) ?_ 3 _ rfl; (with_reducible repeat (first | refine blk_drewN ?_ _ | refine blk_drew ?_ | refine blk_alloc ?_ _)); refine blk_put (cs := #[.int .i64 t230, .bool t231, .int .i64 0, .string (⟨#[]⟩ : ByteArray), .string (⟨#[]⟩ : ByteArray), .string (⟨#[]⟩ : ByteArray), .slice none 0 0]) ?_ 2 _ rfl; (with_reducible repeat (first | refine blk_drewN ?_ _ | refine blk_drew ?_ | refine blk_alloc ?_ _)); refine blk_put (cs := #[.int .i64 t230, .bool false, .int .i64 0, .string (⟨#[]⟩ : ByteArray), .string (⟨#[]⟩ : ByteArray), .string (⟨#[]⟩ : ByteArray), .slice none 0 0]) ?_ 1 _ rfl; (with_reducible repeat (first | refine blk_drewN ?_ _ | refine blk_drew ?_ | refine blk_alloc ?_ _)); refine blk_put (cs := #[.int .i64 0, .bool false, .int .i64 0, .string (⟨#[]⟩ : ByteArray), .string (⟨#[]⟩ : ByteArray), .string (⟨#[]⟩ : ByteArray), .slice none 0 0]) ?_ 0 _ rfl; (with_reducible repeat (first | refine blk_drewN ?_ _ | refine blk_drew ?_ | refine blk_alloc ?_ _)); exact BK228.out) Try.underlying31 rfl (by kernel_rfl)) rfl ?_
  exact ⟨_, by first | rfl | (simp [errW_none, errW_some] <;> rfl) | (simp [*, errW_none, errW_some] <;> rfl), by (with_reducible repeat (first | apply Kd.N_alloc | apply Kd.N_drewN | apply Kd.N_drew)); exact Kd.N_mono (Kd.N_far (p := ⟨gb228, 6, none⟩) (Kd.N_far (p := ⟨gb228, 5, none⟩) (Kd.N_far (p := ⟨gb228, 4, none⟩) (Kd.N_far (p := ⟨gb228, 3, none⟩) (Kd.N_far (p := ⟨gb228, 2, none⟩) (Kd.N_far (p := ⟨gb228, 1, none⟩) (Kd.N_far (p := ⟨gb228, 0, none⟩) (Kd.N_mono HO238.out (fun k_ hk => (⟨hk, hk.2.2⟩ : _ ∧ k_ ≠ gb228))) (fun _ hk => hk.2) (.int .i64 t230)) (fun _ hk => hk.2) (.bool t231)) (fun _ hk => hk.2) (.int .i64 t232)) (fun _ hk => hk.2) (.string t233)) (fun _ hk => hk.2) (.string t234)) (fun _ hk => hk.2) (.string t235)) (fun _ hk => hk.2) (.slice Ao11 t236.length co11)) (fun _ hk => hk.1.1), bl2 HB GE227 GE228⟩
 ·
  rw [if_neg c3] at H
  have c3b0 : decide ((wrap64 (1 + t229)) < 5) = false := decide_eq_false c3
  clear c3
  have H' := aZ_ H
  clear H
  go_enter Try.func16, Try.ntmps16
  go_wp2_with (first | ((with_reducible refine gate_dst (N := 1) rfl ?_); refine bxE 1 #[.int .i64 a0_0, .int .i64 a0_1, .slice A0_2 l0_2.length c0_2, .slice A0_3 l0_3.length c0_3] 25 ?_; intro gb227 hg w12 hbox hb; have BK227 := aZ_ (hbox); have GW227 := aZ_ ((by rw [hg]; exact (below_size (bl HB)) : w.heap.size ≤ gb227)); have GE227 := aZ_ ((by rw [hg]; exact (below_size (bl HB)) : w.heap.size ≤ gb227)); replace HB := aZ_ (below_step (bl HB) hb); clear hb hbox hg) | ((with_reducible refine gate_dst (N := 2) rfl ?_); refine bxE 2 #[.int .i64 0, .bool false, .int .i64 0, .string (⟨#[]⟩ : ByteArray), .string (⟨#[]⟩ : ByteArray), .string (⟨#[]⟩ : ByteArray), .slice none 0 0] 31 ?_; intro gb228 hg w13 hbox hb; have BK228 := aZ_ (hbox); have GW228 := aZ_ ((by rw [hg]; exact (below_size (bl1 HB GE227)) : w.heap.size ≤ gb228)); have GE228 := aZ_ ((by rw [hg]; exact (below_size (bl1 HB GE227)) : w.heap.size ≤ gb228)); replace HB := aZ_ (below_step (bl1 HB GE227) hb); have NB227_228 := aZ_ ((by rw [hg]; exact Nat.ne_of_lt (blk_lt (g := gb227) (o := .cells #[.int .i64 a0_0, .int .i64 a0_1, .slice A0_2 l0_2.length c0_2, .slice A0_3 l0_3.length c0_3] 25 (0, 0)) (bk BK227)) : gb227 ≠ gb228)); have NB228_227 := aZ_ ((by rw [hg]; exact Nat.ne_of_gt (blk_lt (g := gb227) (o := .cells #[.int .i64 a0_0, .int .i64 a0_1, .slice A0_2 l0_2.length c0_2, .slice A0_3 l0_3.length c0_3] 25 (0, 0)) (bk BK227)) : gb228 ≠ gb227)); replace BK227 := aZ_ (blk_below (g := gb227) (o := .cells #[.int .i64 a0_0, .int .i64 a0_1, .slice A0_2 l0_2.length c0_2, .slice A0_3 l0_3.length c0_3] 25 (0, 0)) (bk BK227) hb); clear hb hbox hg; have hnb14 := NB227_228.out; have hnc14 := NB228_227.out; obtain ⟨hcz15_0, hcz15_1, hcz15_2, hcz15_3, hfz15_0, hfz15_1, hfz15_2, hfz15_3⟩ := bc4 BK227) | ((with_reducible refine gate_callee (f := 19) rfl ?_); refine goesL_ (some 10) rfl rfl Try.func19 (by kernel_rfl) rfl #[.int .i64 a0_0, .int .i64 5] rfl gm_ ?_; (with_reducible refine (chancellaw3_within.calls a0_0 5 t229 _ A2.out).mono ?_); rintro e w' ⟨rfl, ⟨nd, rfl⟩⟩; refine ⟨_, rfl, ?_⟩))
  go_loopg [4, 5] k (fun kq v4 v5 w' => ∃ (x4_1 : List (S31)) (x5_1 : Int), v5 = .int .i64 x5_1 ∧ Aside0 (chancellaw3_Good.l0 kq x4_1 x5_1 a0_0 a0_1 l0_2 l0_3 = some (r1, r2, r3, r4, r5, r6, r7)) ∧ Aside0 (kq ≤ k) ∧ Aside0 (Kd.N k31 31 w' w.heap.size (fun k_ => (w.heap.size ≤ k_) ∧ k_ ≠ gb227 ∧ k_ ≠ gb228) v4 x4_1) ∧ Aside0 (w'.heap[gb227]? = some (.cells #[.int .i64 a0_0, .int .i64 a0_1, (.slice A0_2 l0_2.length c0_2), (.slice A0_3 l0_3.length c0_3)] 25 (0, 0))) ∧ Aside0 (w'.heap[gb228]? = some (.cells #[.int .i64 0, .bool false, .int .i64 0, .string (⟨#[]⟩ : ByteArray), .string (⟨#[]⟩ : ByteArray), .string (⟨#[]⟩ : ByteArray), (.slice none 0 0)] 31 (0, 0))) ∧ Aside0 (Below w.heap.size w w'))
  case atStart => exact ⟨(([] : List (S31))), (0), rf_, H', ⟨Nat.le_refl _⟩, ⟨by first | exact Kd.R_nil _ _ _ _ _ | exact Kd.N_nil _ _ _ _ _ | exact Kd.V_nil _ _ _ _ _ | exact Kd.Q_nil _ _ _ _ _ | exact Kd.S_nil _ _ _ _ _⟩, ⟨bk BK227⟩, ⟨bk BK228⟩, ⟨bl2 HB GE227 GE228⟩⟩
  case round =>
   clear H'
   try clear c1
   try clear c2
   try clear p2
   try clear c3
   try clear c3b0
   try clear p6
   try clear c7
   try clear c14
   try clear hcz10_0
   try clear hcz10_1
   try clear hcz10_2
   try clear hcz10_3
   try clear hcz10_4
   try clear hcz10_5
   try clear hcz10_6
   try clear hcz15_0
   try clear hcz15_1
   try clear hcz15_2
   try clear hcz15_3
   try clear hcz8_0
   try clear hcz8_1
   try clear hcz8_2
   try clear hcz8_3
   try clear hfz10_0
   try clear hfz10_1
   try clear hfz10_2
   try clear hfz10_3
   try clear hfz10_4
   try clear hfz10_5
   try clear hfz10_6
   try clear hfz15_0
   try clear hfz15_1
   try clear hfz15_2
   try clear hfz15_3
   try clear hfz8_0
   try clear hfz8_1
   try clear hfz8_2
   try clear hfz8_3
   obtain ⟨x4_1, x5_1, rfl, HA, HK1, HO_4, BK227, BK228, HB⟩ := hrel
   cases gk with
   | zero => exact absurd HA.out (by simp [chancellaw3_Good.l0])
   | succ k1 =>
    have H := HA.out
    clear HA
    simp only [chancellaw3_Good.l0] at H
    have HC16 := aZ_ H
    clear H
    go_upto_region 6 with (fail)
    go_cut [25] (fun v25 wc => ∃ (kq : Nat) (x25_15 : Bool), v25 = .bool x25_15 ∧ Aside0 (chancellaw3_Good.j1 kq x4_1 x5_1 x25_15 a0_0 a0_1 l0_2 l0_3 = some (r1, r2, r3, r4, r5, r6, r7)) ∧ Aside0 (kq ≤ k1) ∧ Aside0 (Kd.N k31 31 wc w.heap.size (fun k_ => (w.heap.size ≤ k_) ∧ k_ ≠ gb227 ∧ k_ ≠ gb228) u4 x4_1) ∧ Aside0 (wc.heap[gb227]? = some (.cells #[.int .i64 a0_0, .int .i64 a0_1, (.slice A0_2 l0_2.length c0_2), (.slice A0_3 l0_3.length c0_3)] 25 (0, 0))) ∧ Aside0 (wc.heap[gb228]? = some (.cells #[.int .i64 0, .bool false, .int .i64 0, .string (⟨#[]⟩ : ByteArray), .string (⟨#[]⟩ : ByteArray), .string (⟨#[]⟩ : ByteArray), (.slice none 0 0)] 31 (0, 0))) ∧ Aside0 (Below w.heap.size w wc))
    case first =>
     have H := HC16.out
     clear HC16
     by_cases c17 : x5_1 < (l0_3.length : Int)
     ·
      rw [if_pos c17] at H
      have c17b0 : decide (x5_1 < (l0_3.length : Int)) = true := decide_eq_true c17
      clear c17
      (first | rw [c17b0] | (simp only [i64_w, i32_w]; rw [c17b0]) | skip)
      have H' := aZ_ H
      clear H
      have hnb18 := NB227_228.out
      have hnc18 := NB228_227.out
      obtain ⟨hcz19_0, hcz19_1, hcz19_2, hcz19_3, hfz19_0, hfz19_1, hfz19_2, hfz19_3⟩ := bc4 BK227
      go_wp2
      go_meet
      case rel => exact ⟨_, (decide (x5_1 < 8)), rf_, H', ⟨by have := HK1.out; first | omega | exact Nat.le_refl _⟩, ⟨kN HO_4⟩, ⟨bk BK227⟩, ⟨bk BK228⟩, ⟨bl2 HB GE227 GE228⟩⟩
     ·
      rw [if_neg c17] at H
      have c17b0 : decide (x5_1 < (l0_3.length : Int)) = false := decide_eq_false c17
      clear c17
      (first | rw [c17b0] | (simp only [i64_w, i32_w]; rw [c17b0]) | skip)
      have H' := aZ_ H
      clear H
      have hnb20 := NB227_228.out
      have hnc20 := NB228_227.out
      obtain ⟨hcz21_0, hcz21_1, hcz21_2, hcz21_3, hfz21_0, hfz21_1, hfz21_2, hfz21_3⟩ := bc4 BK227
      go_wp2
      go_meet
      case rel => exact ⟨_, (false), rf_, H', ⟨by have := HK1.out; first | omega | exact Nat.le_refl _⟩, ⟨kN HO_4⟩, ⟨bk BK227⟩, ⟨bk BK228⟩, ⟨bl2 HB GE227 GE228⟩⟩
    case rest =>
     clear HC16
     try clear c1
     try clear c2
     try clear p2
     try clear c3
     try clear c3b0
     try clear p6
     try clear c7
     try clear c14
     try clear c16
     try clear c17
     try clear c17b0
     try clear c18
     try clear c19
     try clear c20
     try clear hcz10_0
     try clear hcz10_1
     try clear hcz10_2
     try clear hcz10_3
     try clear hcz10_4
     try clear hcz10_5
     try clear hcz10_6
     try clear hcz15_0
     try clear hcz15_1
     try clear hcz15_2
     try clear hcz15_3
     try clear hcz19_0
     try clear hcz19_1
     try clear hcz19_2
     try clear hcz19_3
     try clear hcz21_0
     try clear hcz21_1
     try clear hcz21_2
     try clear hcz21_3
     try clear hcz8_0
     try clear hcz8_1
     try clear hcz8_2
     try clear hcz8_3
     try clear hfz10_0
     try clear hfz10_1
     try clear hfz10_2
     try clear hfz10_3
     try clear hfz10_4
     try clear hfz10_5
     try clear hfz10_6
     try clear hfz15_0
     try clear hfz15_1
     try clear hfz15_2
     try clear hfz15_3
     try clear hfz19_0
     try clear hfz19_1
     try clear hfz19_2
     try clear hfz19_3
     try clear hfz21_0
     try clear hfz21_1
     try clear hfz21_2
     try clear hfz21_3
     try clear hfz8_0
     try clear hfz8_1
     try clear hfz8_2
     try clear hfz8_3
     try clear p2
     try clear p6
     obtain ⟨kq, x25_15, rfl, HA, HJ15, HO_4, BK227, BK228, HB⟩ := hcut
     cases kq with
     | zero => exact absurd HA.out (by simp [chancellaw3_Good.j1])
     | succ kj15 =>
      have H := HA.out
      clear HA
      simp only [chancellaw3_Good.j1] at H
      by_cases c22 : x25_15 = true
      ·
       subst c22
       have H1 : (if 0 ≤ x5_1 then (if x5_1 < (l0_3.length : Int) then ((chancellaw3_within.f (wrap64 (Int.tdiv a0_0 5)) 4).bind fun t240 => ((chancellaw3_Plain.f kj15 ((rd_T25 l0_3 x5_1).f0) ((rd_T25 l0_3 x5_1).f1) ((rd_T25 l0_3 x5_1).f2) ((rd_T25 l0_3 x5_1).f3) (wrap64 (1 + t240))).bind fun bt241 => (if x4_1.length < 1466015503701 then (chancellaw3_Good.l0 kj15 (x4_1 ++ [(⟨bt241.1, bt241.2.1, bt241.2.2.1, bt241.2.2.2.1, (⟨bt241.2.2.2.2.1, bt241.2.2.2.2.2.1⟩ : S28), bt241.2.2.2.2.2.2⟩ : S31)]) (wrap64 (x5_1 + 1)) a0_0 a0_1 l0_2 l0_3) else (none)))) else (none)) else (none)) = some (r1, r2, r3, r4, r5, r6, r7) := by rw [if_pos rfl] at H; exact H
       clear H
       have H := H1
       clear H1
       by_cases c23 : 0 ≤ x5_1
       ·
        rw [if_pos c23] at H
        have c23b0 : decide (0 ≤ x5_1) = true := decide_eq_true c23
        clear c23
        by_cases c24 : x5_1 < (l0_3.length : Int)
        ·
         rw [if_pos c24] at H
         have c24b0 : decide (x5_1 < (l0_3.length : Int)) = true := decide_eq_true c24
         clear c24
         replace H := Option.bind_eq_some_iff.mp H
         obtain ⟨t240, A250, H⟩ := H
         replace H : ((chancellaw3_Plain.f kj15 ((rd_T25 l0_3 x5_1).f0) ((rd_T25 l0_3 x5_1).f1) ((rd_T25 l0_3 x5_1).f2) ((rd_T25 l0_3 x5_1).f3) (wrap64 (1 + t240))).bind fun bt241 => (if x4_1.length < 1466015503701 then (chancellaw3_Good.l0 kj15 (x4_1 ++ [(⟨bt241.1, bt241.2.1, bt241.2.2.1, bt241.2.2.2.1, (⟨bt241.2.2.2.2.1, bt241.2.2.2.2.2.1⟩ : S28), bt241.2.2.2.2.2.2⟩ : S31)]) (wrap64 (x5_1 + 1)) a0_0 a0_1 l0_2 l0_3) else (none))) = some (r1, r2, r3, r4, r5, r6, r7) := H
         have A25 := aZ_ A250
         clear A250
         replace H := Option.bind_eq_some_iff.mp H
         obtain ⟨⟨t241, t242, t243, t244, t245, t246, t247⟩, A260, H⟩ := H
         replace H : (if x4_1.length < 1466015503701 then (chancellaw3_Good.l0 kj15 (x4_1 ++ [(⟨t241, t242, t243, t244, (⟨t245, t246⟩ : S28), t247⟩ : S31)]) (wrap64 (x5_1 + 1)) a0_0 a0_1 l0_2 l0_3) else (none)) = some (r1, r2, r3, r4, r5, r6, r7) := H
         have A26 := aZ_ A260
         clear A260
         by_cases c27 : x4_1.length < 1466015503701
         ·
          rw [if_pos c27] at H
          have LMc27 := aZ_ c27
          clear c27
          obtain ⟨y250, hy250⟩ : ∃ y_ : List (S31), y_ = (x4_1 ++ [(⟨t241, t242, t243, t244, (⟨t245, t246⟩ : S28), t247⟩ : S31)]) := ⟨_, rfl⟩
          replace H : (chancellaw3_Good.l0 kj15 y250 (wrap64 (x5_1 + 1)) a0_0 a0_1 l0_2 l0_3) = some (r1, r2, r3, r4, r5, r6, r7) := by first | (rw [hy250]; with_reducible exact H) | (have H2_ := (Option.bind_some _ _).symm.trans H; rw [hy250]; with_reducible exact H2_) | (have H2_ := (Option.bind_some _ _).symm.trans H; with_reducible exact H2_) | with_reducible exact H | (rw [hy250]; exact H) | exact H
          have Ny250 := aZ_ hy250
          clear hy250
          have H' := aZ_ H
          clear H
          try go_wp2
          replace HO_4 := aZ_ (Kd.N_drew HO_4.out)
          replace BK227 := aZ_ (blk_drew BK227.out)
          replace BK228 := aZ_ (blk_drew BK228.out)
          replace HB := aZ_ (below_drew1 HB.out)
          have p239 : 0 ≤ (x5_1 : Int) := of_decide_eq_true asm_
          have q239 : x5_1 < (l0_3.length : Int) := of_decide_eq_true asm_
          obtain ⟨ad239, A239_2, c239_2, A239_3, c239_3, e239, hx239_0, hx239_1, hx239_2, hx239_3, hl239_2, hi239_2, hl239_3, hi239_3⟩ := at_T25 HR0_3.out x5_1 p239 q239
          have hw239_3 := hx239_3
          have hw239_2 := hx239_2
          have hw239_1 := hx239_1
          have hw239_0 := hx239_0
          cases e239
          replace hx239_0 := (hbc HB.out hx239_0 :)
          replace hx239_1 := (hbc HB.out hx239_1 :)
          replace hx239_2 := (hbc HB.out hx239_2 :)
          replace hx239_3 := (hbc HB.out hx239_3 :)
          have HR239_2 := aZ_ hi239_2
          have HC239_2 := aZ_ hl239_2
          clear hi239_2 hl239_2
          have HR239_3 := aZ_ hi239_3
          have HC239_3 := aZ_ hl239_3
          clear hi239_3 hl239_3
          replace p239 := eq_true p239
          replace q239 := eq_true q239
          refine start_ (n := 15) (S := fun w' => w'.cell? ⟨gb227, 0, none⟩ = some (.int .i64 a0_0) ∧ w'.cell? ⟨gb227, 1, none⟩ = some (.int .i64 a0_1) ∧ w'.cell? ⟨gb227, 2, none⟩ = some (.slice A0_2 l0_2.length c0_2) ∧ w'.cell? ⟨gb227, 3, none⟩ = some (.slice (some ad239) l0_3.length c0_3) ∧ w'.cell? (ad239.add ((x5_1).toNat * 4)) = some (.int .i64 ((rd_T25 l0_3 x5_1).f0)) ∧ w'.cell? ⟨(ad239.add ((x5_1).toNat * 4)).block, (ad239.add ((x5_1).toNat * 4)).off + 1, none⟩ = some (.int .i64 ((rd_T25 l0_3 x5_1).f1)) ∧ w'.cell? ⟨(ad239.add ((x5_1).toNat * 4)).block, (ad239.add ((x5_1).toNat * 4)).off + 2, none⟩ = some (.slice A239_2 ((rd_T25 l0_3 x5_1).f2).length c239_2) ∧ w'.cell? ⟨(ad239.add ((x5_1).toNat * 4)).block, (ad239.add ((x5_1).toNat * 4)).off + 3, none⟩ = some (.slice A239_3 ((rd_T25 l0_3 x5_1).f3).length c239_3)) (ds := []) #[false, false, false, false, false, false, false, false, false, false, false, false, false, false, false] (by kernel_rfl) rfl rfl ⟨(blk_cell BK227.out 0).trans rfl, (blk_cell BK227.out 1).trans rfl, (blk_cell BK227.out 2).trans rfl, (blk_cell BK227.out 3).trans rfl, ((hbc HB.out hw239_0 :)), ((hbc HB.out hw239_1 :)), ((hbc HB.out hw239_2 :)), ((hbc HB.out hw239_3 :))⟩ (fun hHeld => ?_); refine with_tabW chancellaw3_Good.tab8 chancellaw3_Good.bits8 (fun HT_ HW_ => ?_)
          generalize wc.drew = w28 at HO_4 BK227 BK228 HB HR239_2 HR239_3 hx239_0 hx239_1 hx239_2 hx239_3 hHeld ⊢
          refine pS_ 0 28 (fa 15 1) HT_ ?_
          refine pS_ 1 29 (fa 15 3) HT_ ?_
          refine pS_ 3 31 (fa 15 11) HT_ ?_
          refine pS_ 6 34 (fa 15 75) HT_ ?_
          refine tS_ 2 30 (fa 15 79) HT_ HW_ hHeld ?_
          refine pS_ 4 32 (fa 15 95) HT_ ?_
          refine tS_ 5 33 (fa 15 127) HT_ HW_ hHeld ?_
          refine tS_ 7 35 (fa 15 255) HT_ HW_ hHeld ?_
          refine pS_ 8 36 (fa 15 511) HT_ ?_
          refine one_ (i := 9) (N := some 37) #[true, true, true, true, true, true, true, true, true, true, false, false, false, false, false] rfl rfl (one_of HT_.out (by kernel_rfl)) (by decide) (fun K hK => ?_)
          refine goes_ Try.func19 (by kernel_rfl) rfl #[.int .i64 (wrap64 (Int.tdiv a0_0 5)), .int .i64 4] (by rfl) rfl rfl gm_ ?_
          with_reducible refine (chancellaw3_within.calls (wrap64 (Int.tdiv a0_0 5)) 4 t240 _ A25.out).mono ?_
          rintro e w' ⟨rfl, ⟨nd, rfl⟩⟩
          refine ⟨_, rfl, ?_⟩
          refine hK.out _ _ ⟨(blk_cell BK227.out 0).trans rfl, (blk_cell BK227.out 1).trans rfl, (blk_cell BK227.out 2).trans rfl, (blk_cell BK227.out 3).trans rfl, ((hbc HB.out hw239_0 :)), ((hbc HB.out hw239_1 :)), ((hbc HB.out hw239_2 :)), ((hbc HB.out hw239_3 :))⟩ (fun hHeld => ?_)
          clear hK K
          refine norm_ (a' := ?_) ?_ ?_
          rotate_left
          ·
           show Act.put _ (some 37) _ = _
           simp only [Act.put, List.setIfInBounds_toArray, List.set_cons_zero, List.set_cons_succ, i64_w, i32_w]
           rfl
          refine pS_ 10 38 (fa 15 2047) HT_ ?_
          refine one_ (i := 11) (N := some 39) #[true, true, true, true, true, true, true, true, true, true, true, true, false, false, false] rfl rfl (one_of HT_.out (by kernel_rfl)) (by decide) (fun K hK => ?_)
          refine goes_ Try.func20 (by kernel_rfl) rfl #[.agg #[.int .i64 ((rd_T25 l0_3 x5_1).f0), .int .i64 ((rd_T25 l0_3 x5_1).f1), .slice A239_2 ((rd_T25 l0_3 x5_1).f2).length c239_2, .slice A239_3 ((rd_T25 l0_3 x5_1).f3).length c239_3], .int .i64 (wrap64 (1 + t240))] (by rfl) rfl rfl gm_ ?_
          with_reducible refine (chancellaw3_Plain.calls kj15 ((rd_T25 l0_3 x5_1).f0) ((rd_T25 l0_3 x5_1).f1) _ _ ((rd_T25 l0_3 x5_1).f2) _ _ ((rd_T25 l0_3 x5_1).f3) (wrap64 (1 + t240)) t241 t242 t243 t244 t245 t246 t247 _ ?side1 ?side2 ?side3 ?side4 A26.out).mono ?_
          (case side1 => repeat (first | exact (Kd.C_below HR239_2.out (bl2 HB GE227 GE228)) | (with_reducible refine Kd.C_alloc ?_ _) | (with_reducible refine Kd.C_drewN ?_ _) | (with_reducible refine Kd.C_drew ?_)))
          (case side2 => exact HC239_2.out)
          (case side3 => repeat (first | exact (Kd.C_below HR239_3.out (bl2 HB GE227 GE228)) | (with_reducible refine Kd.C_alloc ?_ _) | (with_reducible refine Kd.C_drewN ?_ _) | (with_reducible refine Kd.C_drew ?_)))
          (case side4 => exact HC239_3.out)
          rintro e w29 ⟨v248, rfl, ho0, hb⟩
          refine ⟨_, rfl, ?_⟩
          have HO249 := aZ_ (Kd.N_lower (Kd.N_mono (ok' := fun k_ => (w.heap.size ≤ k_) ∧ some k_ ≠ (u4 : Value).ownBlock ∧ k_ ≠ gb227 ∧ k_ ≠ gb228) (Kd.R_N (Kd.R_bound ho0)) (fun k_ hk_ => ⟨(Nat.le_trans (below_size (bl2 HB GE227 GE228)) hk_.2.1), (Kd.fresh' (Kd.N_lt (kN HO_4)) k_ hk_.2.1), (Kd.freshB (g := gb227) (o := .cells #[.int .i64 a0_0, .int .i64 a0_1, .slice A0_2 l0_2.length c0_2, .slice (some ad239) l0_3.length c0_3] 25 (0, 0)) (bk BK227) k_ hk_.2.1), (Kd.freshB (g := gb228) (o := .cells #[.int .i64 0, .bool false, .int .i64 0, .string (⟨#[]⟩ : ByteArray), .string (⟨#[]⟩ : ByteArray), .string (⟨#[]⟩ : ByteArray), .slice none 0 0] 31 (0, 0)) (bk BK228) k_ hk_.2.1)⟩)) (below_size (bl2 HB GE227 GE228)))
          replace HO_4 := aZ_ (Kd.N_elder' (kN HO_4) (by first | exact Kd.N_base ho0 | exact Kd.R_base ho0) hb)
          replace BK227 := aZ_ (blk_below (g := gb227) (o := .cells #[.int .i64 a0_0, .int .i64 a0_1, .slice A0_2 l0_2.length c0_2, .slice (some ad239) l0_3.length c0_3] 25 (0, 0)) (bk BK227) hb)
          replace BK228 := aZ_ (blk_below (g := gb228) (o := .cells #[.int .i64 0, .bool false, .int .i64 0, .string (⟨#[]⟩ : ByteArray), .string (⟨#[]⟩ : ByteArray), .string (⟨#[]⟩ : ByteArray), .slice none 0 0] 31 (0, 0)) (bk BK228) hb)
          replace HB := aZ_ (below_step (bl2 HB GE227 GE228) hb)
          (try clear hb)
          (try clear hb2)
          (try clear hk)
          (try clear hi)
          (try clear ho0)
          obtain ⟨Ao31, co31, eo31⟩ := Kd.N_slice HO249.out
          (first | subst eo31 | (injection eo31 with f1_ f2_ f3_; have f4_ := f1_.symm; have f5_ := f3_.symm; clear f1_ f2_ f3_; subst f4_; subst f5_))
          refine hK.out _ _ ⟨(blk_cell BK227.out 0).trans rfl, (blk_cell BK227.out 1).trans rfl, (blk_cell BK227.out 2).trans rfl, (blk_cell BK227.out 3).trans rfl, ((hbc HB.out hw239_0 :)), ((hbc HB.out hw239_1 :)), ((hbc HB.out hw239_2 :)), ((hbc HB.out hw239_3 :))⟩ (fun hHeld => ?_)
          clear hK K
          refine norm_ (a' := ?_) ?_ ?_
          rotate_left
          ·
           show Act.put _ (some 39) _ = _
           simp only [Act.put, List.setIfInBounds_toArray, List.set_cons_zero, List.set_cons_succ, i64_w, i32_w]
           rfl
          refine one_ (i := 12) (N := some 40) #[true, true, true, true, true, true, true, true, true, true, true, true, true, false, false] rfl rfl (one_of HT_.out (by kernel_rfl)) (by decide) (fun K hK => ?_)
          refine value_ (w1 := ?_) (v := ?_) (by rfl) rfl ?_ ?_
          rotate_left 2
          ·
           go_simp
           constructor
           ·
            rfl
           ·
            rfl
          refine hK.out _ _ ⟨(blk_cell (blk_alloc BK227.out _) 0).trans rfl, (blk_cell (blk_alloc BK227.out _) 1).trans rfl, (blk_cell (blk_alloc BK227.out _) 2).trans rfl, (blk_cell (blk_alloc BK227.out _) 3).trans rfl, (World.cell?_alloc_lt _ _ _ (World.block_lt_of_cell? _ _ (((hbc HB.out hw239_0 :))))).trans (((hbc HB.out hw239_0 :))), (World.cell?_alloc_lt _ _ _ (World.block_lt_of_cell? _ _ (((hbc HB.out hw239_1 :))))).trans (((hbc HB.out hw239_1 :))), (World.cell?_alloc_lt _ _ _ (World.block_lt_of_cell? _ _ (((hbc HB.out hw239_2 :))))).trans (((hbc HB.out hw239_2 :))), (World.cell?_alloc_lt _ _ _ (World.block_lt_of_cell? _ _ (((hbc HB.out hw239_3 :))))).trans (((hbc HB.out hw239_3 :)))⟩ (fun hHeld => ?_)
          clear hK K
          refine norm_ (a' := ?_) ?_ ?_
          rotate_left
          ·
           show Act.put _ (some 40) _ = _
           simp only [Act.put, List.setIfInBounds_toArray, List.set_cons_zero, List.set_cons_succ, i64_w, i32_w]
           rfl
          refine one_ (i := 13) (N := some 41) #[true, true, true, true, true, true, true, true, true, true, true, true, true, true, false] rfl rfl (one_of HT_.out (by kernel_rfl)) (by decide) (fun K hK => ?_)
          refine Kd.N_append_step k31 (w0 := w) w.heap.size (by rfl) (.tmp 28) (.tmp 40) 29 31 (.agg #[(.int .i64 0), (.bool false), (.int .i64 0), (.string ⟨#[]⟩), (.string ⟨#[]⟩), (.string ⟨#[]⟩), (.slice none 0 0)]) 96 rfl Try.underlying29 info31 rfl (by decide) (by omega) u4 x4_1 (⟨t241, t242, t243, t244, (⟨t245, t246⟩ : S28), t247⟩ : S31) [.int .i64 t241, .bool t242, .int .i64 t243, .string t244, .string t245, .string t246, .slice Ao31 t247.length co31] (fun k_ => (w.heap.size ≤ k_) ∧ k_ ≠ gb227 ∧ k_ ≠ gb228) (fun k_ => ((fun k_ => (w.heap.size ≤ k_) ∧ k_ ≠ gb227 ∧ k_ ≠ gb228)) k_ ∧ some k_ ≠ (u4 : Value).ownBlock) rfl rfl ?aP (fun _ hk => hk) ?aF ?aO ?aB ?aS ?aL ?_
          (case aP => exact (k31_mkF _ _ (⟨t241, t242, t243, t244, (⟨t245, t246⟩ : S28), t247⟩ : S31) (Kd.N_reads' (Kd.N_mono (ok' := (fun k_ => ((fun k_ => (w.heap.size ≤ k_) ∧ k_ ≠ gb227 ∧ k_ ≠ gb228)) k_ ∧ some k_ ≠ (u4 : Value).ownBlock)) (HO249.out) (fun k_ hk => ⟨⟨hk.1, ⟨hk.2.2.1, hk.2.2.2⟩⟩, hk.2.1⟩))).2.1 (Kd.N_F (Kd.N_mono (ok' := (fun k_ => ((fun k_ => (w.heap.size ≤ k_) ∧ k_ ≠ gb227 ∧ k_ ≠ gb228)) k_ ∧ some k_ ≠ (u4 : Value).ownBlock)) (HO249.out) (fun k_ hk => ⟨⟨hk.1, ⟨hk.2.2.1, hk.2.2.2⟩⟩, hk.2.1⟩)))))
          (case aB => exact (bl2 HB GE227 GE228))
          (case aF => exact (fun k_ hk => ⟨(Nat.le_trans (below_size (bl2 HB GE227 GE228)) hk), Kd.freshB (g := gb227) (o := .cells #[.int .i64 a0_0, .int .i64 a0_1, .slice A0_2 l0_2.length c0_2, .slice (some ad239) l0_3.length c0_3] 25 (0, 0)) (bk BK227) k_ hk, Kd.freshB (g := gb228) (o := .cells #[.int .i64 0, .bool false, .int .i64 0, .string (⟨#[]⟩ : ByteArray), .string (⟨#[]⟩ : ByteArray), .string (⟨#[]⟩ : ByteArray), .slice none 0 0] 31 (0, 0)) (bk BK228) k_ hk⟩))
          (case aO => exact (by (with_reducible repeat (first | apply Kd.N_alloc | apply Kd.N_drewN | apply Kd.N_drew)); exact Kd.N_mono HO_4.out (fun _ hk => ⟨hk.1.1, ⟨hk.1.2.1, hk.1.2.2⟩⟩)))
          (case aS => exact (below_size (bl2 HB GE227 GE228)))
          (case aL => have := LMc27.out; omega)
          intro v251 w30 ho hb hg hat
          rw [← Ny250.out] at ho
          replace BK227 := aZ_ (blk_grown (g := gb227) (o := .cells #[.int .i64 a0_0, .int .i64 a0_1, .slice A0_2 l0_2.length c0_2, .slice (some ad239) l0_3.length c0_3] 25 (0, 0)) (bk BK227) hg (Kd.N_ne HO_4.out BK227.out (by decide)))
          replace BK228 := aZ_ (blk_grown (g := gb228) (o := .cells #[.int .i64 0, .bool false, .int .i64 0, .string (⟨#[]⟩ : ByteArray), .string (⟨#[]⟩ : ByteArray), .string (⟨#[]⟩ : ByteArray), .slice none 0 0] 31 (0, 0)) (bk BK228) hg (Kd.N_away HO_4.out (fun _ hk => hk.1.2.2)))
          replace HB := aZ_ (hb)
          have HO252 := aZ_ (ho)
          clear HO_4 HO249
          clear ho hb hg hat
          refine hK.out _ _ ⟨(blk_cell BK227.out 0).trans rfl, (blk_cell BK227.out 1).trans rfl, (blk_cell BK227.out 2).trans rfl, (blk_cell BK227.out 3).trans rfl, ((hbc HB.out hw239_0 :)), ((hbc HB.out hw239_1 :)), ((hbc HB.out hw239_2 :)), ((hbc HB.out hw239_3 :))⟩ (fun hHeld => ?_)
          clear hK K
          refine norm_ (a' := ?_) ?_ ?_
          rotate_left
          ·
           show Act.put _ (some 41) _ = _
           simp only [Act.put, List.setIfInBounds_toArray, List.set_cons_zero, List.set_cons_succ, i64_w, i32_w]
           rfl
          refine pS_ 14 4 (fa 15 32767) HT_ ?_
          refine done_ (done_of HT_.out (by kernel_rfl)) ?_
          try go_wp2
          go_roundg kj15
          case measure => have := HK1.out; have := HJ15.out; omega
          case rel => exact ⟨(y250), (wrap64 (x5_1 + 1)), rf_, H', ⟨by have := HK1.out; have := HJ15.out; omega⟩, ⟨kN HO252⟩, ⟨bk BK227⟩, ⟨bk BK228⟩, ⟨bl2 HB GE227 GE228⟩⟩
         ·
          rw [if_neg c27] at H
          exact absurd H (by simp)
        ·
         rw [if_neg c24] at H
         exact absurd H (by simp)
       ·
        rw [if_neg c23] at H
        exact absurd H (by simp)
      ·
       replace c22 := Bool.eq_false_iff.mpr c22
       subst c22
       have H1 : ((chancelref3_Set.f kj15 x4_1).bind fun bt253 => (some (bt253.1, bt253.2.1, bt253.2.2.1, bt253.2.2.2.1, bt253.2.2.2.2.1, bt253.2.2.2.2.2.1, bt253.2.2.2.2.2.2.1))) = some (r1, r2, r3, r4, r5, r6, r7) := by rw [if_neg (show ¬ (false = true) by decide)] at H; exact H
       clear H
       have H := H1
       clear H1
       replace H := Option.bind_eq_some_iff.mp H
       obtain ⟨⟨t253, t254, t255, t256, t257, t258, t259, t262⟩, A320, H⟩ := H
       replace H : (some (t253, t254, t255, t256, t257, t258, t259)) = some (r1, r2, r3, r4, r5, r6, r7) := H
       have A32 := aZ_ A320
       clear A320
       simp only [Option.some.injEq, Prod.mk.injEq] at H
       obtain ⟨rfl, rfl, rfl, rfl, rfl, rfl, rfl⟩ := H
       obtain ⟨Ao33, co33, eo33⟩ := Kd.N_slice HO_4.out
       subst eo33
       go_wp2_with (first | ((with_reducible refine gate_callee (f := 74) rfl ?_); refine goesL_ (some 44) rfl rfl Try.func74 (by kernel_rfl) rfl #[.slice Ao33 x4_1.length co33] rfl gm_ ?_; (with_reducible refine (chancelref3_Set.calls kj15 (fun k_ => ((w.heap.size ≤ k_) ∧ (k_ ≠ gb227 ∧ k_ ≠ gb228))) _ _ x4_1 t253 t254 t255 t256 t257 t258 t259 t262 _ ?side1 A32.out).mono ?_); (case side1 => exact Kd.N_V (HO_4.out)); rintro e w34 ⟨v260, rfl, ho0, hb⟩; refine ⟨_, rfl, ?_⟩; replace HO_4 := aZ_ (Kd.N_elder' (kN HO_4) (by first | exact Kd.N_base ho0 | exact Kd.R_base ho0) hb); have HO261 := aZ_ (Kd.N_lower (Kd.N_mono (ok' := fun k_ => (w.heap.size ≤ k_) ∧ k_ ≠ gb227 ∧ k_ ≠ gb228) ho0 (fun k_ hk_ => ⟨Or.elim hk_ (fun hs_ => hs_.1) (fun hn_ => (Nat.le_trans (below_size (bl2 HB GE227 GE228)) hn_)), Or.elim hk_ (fun hs_ => hs_.2.1) (fun hn_ => (Kd.freshB (g := gb227) (o := .cells #[.int .i64 a0_0, .int .i64 a0_1, .slice A0_2 l0_2.length c0_2, .slice A0_3 l0_3.length c0_3] 25 (0, 0)) (bk BK227) k_ hn_)), Or.elim hk_ (fun hs_ => hs_.2.2) (fun hn_ => (Kd.freshB (g := gb228) (o := .cells #[.int .i64 0, .bool false, .int .i64 0, .string (⟨#[]⟩ : ByteArray), .string (⟨#[]⟩ : ByteArray), .string (⟨#[]⟩ : ByteArray), .slice none 0 0] 31 (0, 0)) (bk BK228) k_ hn_))⟩)) (below_size (bl2 HB GE227 GE228))); replace BK227 := aZ_ (blk_below (g := gb227) (o := .cells #[.int .i64 a0_0, .int .i64 a0_1, .slice A0_2 l0_2.length c0_2, .slice A0_3 l0_3.length c0_3] 25 (0, 0)) (bk BK227) hb); replace BK228 := aZ_ (blk_below (g := gb228) (o := .cells #[.int .i64 0, .bool false, .int .i64 0, .string (⟨#[]⟩ : ByteArray), .string (⟨#[]⟩ : ByteArray), .string (⟨#[]⟩ : ByteArray), .slice none 0 0] 31 (0, 0)) (bk BK228) hb); replace HB := aZ_ (below_step (bl2 HB GE227 GE228) hb); (try clear hb); (try clear hb2); (try clear hk); (try clear hi); (try clear ho0)) | ((with_reducible refine gate_dst (N := 6) rfl ?_); refine bxE 6 #[.int .i64 0, .bool false, .int .i64 0, .string (⟨#[]⟩ : ByteArray), .string (⟨#[]⟩ : ByteArray), .string (⟨#[]⟩ : ByteArray), .slice none 0 0] 31 ?_; intro gb263 hg w35 hbox hb; replace HO_4 := aZ_ (Kd.N_below (Kd.N_elderB (kN HO_4) gb263 (Nat.le_of_eq hg.symm)) hb); replace HO261 := aZ_ (Kd.N_below (Kd.N_elderB (kN HO261) gb263 (Nat.le_of_eq hg.symm)) hb); have BK263 := aZ_ (hbox); have GW263 := aZ_ ((by rw [hg]; exact (below_size (bl2 HB GE227 GE228)) : w.heap.size ≤ gb263)); have GE263 := aZ_ ((by rw [hg]; exact (below_size (bl2 HB GE227 GE228)) : w.heap.size ≤ gb263)); replace HB := aZ_ (below_step (bl2 HB GE227 GE228) hb); have NB227_263 := aZ_ ((by rw [hg]; exact Nat.ne_of_lt (blk_lt (g := gb227) (o := .cells #[.int .i64 a0_0, .int .i64 a0_1, .slice A0_2 l0_2.length c0_2, .slice A0_3 l0_3.length c0_3] 25 (0, 0)) (bk BK227)) : gb227 ≠ gb263)); have NB263_227 := aZ_ ((by rw [hg]; exact Nat.ne_of_gt (blk_lt (g := gb227) (o := .cells #[.int .i64 a0_0, .int .i64 a0_1, .slice A0_2 l0_2.length c0_2, .slice A0_3 l0_3.length c0_3] 25 (0, 0)) (bk BK227)) : gb263 ≠ gb227)); replace BK227 := aZ_ (blk_below (g := gb227) (o := .cells #[.int .i64 a0_0, .int .i64 a0_1, .slice A0_2 l0_2.length c0_2, .slice A0_3 l0_3.length c0_3] 25 (0, 0)) (bk BK227) hb); have NB228_263 := aZ_ ((by rw [hg]; exact Nat.ne_of_lt (blk_lt (g := gb228) (o := .cells #[.int .i64 0, .bool false, .int .i64 0, .string (⟨#[]⟩ : ByteArray), .string (⟨#[]⟩ : ByteArray), .string (⟨#[]⟩ : ByteArray), .slice none 0 0] 31 (0, 0)) (bk BK228)) : gb228 ≠ gb263)); have NB263_228 := aZ_ ((by rw [hg]; exact Nat.ne_of_gt (blk_lt (g := gb228) (o := .cells #[.int .i64 0, .bool false, .int .i64 0, .string (⟨#[]⟩ : ByteArray), .string (⟨#[]⟩ : ByteArray), .string (⟨#[]⟩ : ByteArray), .slice none 0 0] 31 (0, 0)) (bk BK228)) : gb263 ≠ gb228)); replace BK228 := aZ_ (blk_below (g := gb228) (o := .cells #[.int .i64 0, .bool false, .int .i64 0, .string (⟨#[]⟩ : ByteArray), .string (⟨#[]⟩ : ByteArray), .string (⟨#[]⟩ : ByteArray), .slice none 0 0] 31 (0, 0)) (bk BK228) hb); clear hb hbox hg; have hnb36 := NB263_227.out; have hnc36 := NB227_263.out; have hnb37 := NB263_228.out; have hnc37 := NB228_263.out; obtain ⟨hcz38_0, hcz38_1, hcz38_2, hcz38_3, hcz38_4, hcz38_5, hcz38_6, hfz38_0, hfz38_1, hfz38_2, hfz38_3, hfz38_4, hfz38_5, hfz38_6⟩ := bc7 BK263; obtain ⟨Ao39, co39, eo39⟩ := Kd.N_slice HO261.out; subst eo39; have hnb40 := NB228_227.out; have hnc40 := NB227_228.out; obtain ⟨hcz41_0, hcz41_1, hcz41_2, hcz41_3, hcz41_4, hcz41_5, hcz41_6, hfz41_0, hfz41_1, hfz41_2, hfz41_3, hfz41_4, hfz41_5, hfz41_6⟩ := bc7 BK228))
       refine bodyPost_ret (results_cell_row rfl _ _ gb228 31 #[.int .i64 t253, .bool t254, .int .i64 t255, .string t256, .string t257, .string t258, .slice Ao39 t259.length co39] (0, 0) _ rfl (by (with_reducible repeat (first | refine blk_drewN ?_ _ | refine blk_drew ?_ | refine blk_alloc ?_ _)); refine blk_put (cs := #[.int .i64 t253, .bool t254, .int .i64 t255, .string t256, .string t257, .string t258, .slice none 0 0]) ?_ 6 _ rfl; (with_reducible repeat (first | refine blk_drewN ?_ _ | refine blk_drew ?_ | refine blk_alloc ?_ _)); refine blk_put (cs := #[.int .i64 t253, .bool t254, .int .i64 t255, .string t256, .string t257, .string (⟨#[]⟩ : ByteArray), .slice none 0 0]) ?_ 5 _ rfl; (with_reducible repeat (first | refine blk_drewN ?_ _ | refine blk_drew ?_ | refine blk_alloc ?_ _)); refine blk_put (cs := #[.int .i64 t253, .bool t254, .int .i64 t255, .string t256, .string (⟨#[]⟩ : ByteArray), .string (⟨#[]⟩ : ByteArray), .slice none 0 0]) ?_ 4 _ rfl; (with_reducible repeat (first | refine blk_drewN ?_ _ | refine blk_drew ?_ | refine blk_alloc ?_ _)); refine blk_put (cs := #[.int .i64 t253, .bool t254, .int .i64 t255, .string (⟨#[]⟩ : ByteArray), .string (⟨#[]⟩ : ByteArray), .string (⟨#[]⟩ : ByteArray), .slice none 0 0]) ?_ 3 _ rfl; (with_reducible repeat (first | refine blk_drewN ?_ _ | refine blk_drew ?_ | refine blk_alloc ?_ _)); refine blk_put (cs := #[.int .i64 t253, .bool t254, .int .i64 0, .string (⟨#[]⟩ : ByteArray), .string (⟨#[]⟩ : ByteArray), .string (⟨#[]⟩ : ByteArray), .slice none 0 0]) ?_ 2 _ rfl; (with_reducible repeat (first | refine blk_drewN ?_ _ | refine blk_drew ?_ | refine blk_alloc ?_ _)); refine blk_put (cs := #[.int .i64 t253, .bool false, .int .i64 0, .string (⟨#[]⟩ : ByteArray), .string (⟨#[]⟩ : ByteArray), .string (⟨#[]⟩ : ByteArray), .slice none 0 0]) ?_ 1 _ rfl; (with_reducible repeat (first | refine blk_drewN ?_ _ | refine blk_drew ?_ | refine blk_alloc ?_ _)); refine blk_put (cs := #[.int .i64 0, .bool false, .int .i64 0, .string (⟨#[]⟩ : ByteArray), .string (⟨#[]⟩ : ByteArray), .string (⟨#[]⟩ : ByteArray), .slice none 0 0]) ?_ 0 _ rfl; (with_reducible repeat (first | refine blk_drewN ?_ _ | refine blk_drew ?_ | refine blk_alloc ?_ _)); refine blk_far ?_ NB228_263.out _; (with_reducible repeat (first | refine blk_drewN ?_ _ | refine blk_drew ?_ | refine blk_alloc ?_ _)); refine blk_far ?_ NB228_263.out _; (with_reducible repeat (first | refine blk_drewN ?_ _ | refine blk_drew ?_ | refine blk_alloc ?_ _)); refine blk_far ?_ NB228_263.out _; (with_reducible repeat (first | refine blk_drewN ?_ _ | refine blk_drew ?_ | refine blk_alloc ?_ _)); refine blk_far ?_ NB228_263.out _; (with_reducible repeat (first | refine blk_drewN ?_ _ | refine blk_drew ?_ | refine blk_alloc ?_ _)); refine blk_far ?_ NB228_263.out _; (with_reducible repeat (first | refine blk_drewN ?_ _ | refine blk_drew ?_ | refine blk_alloc ?_ _)); refine blk_far ?_ NB228_263.out _; (with_reducible repeat (first | refine blk_drewN ?_ _ | refine blk_drew ?_ | refine blk_alloc ?_ _)); refine blk_far ?_ NB228_263.out _; (with_reducible repeat (first | refine blk_drewN ?_ _ | refine blk_drew ?_ | refine blk_alloc ?_ _)); exact BK228.out) Try.underlying31 rfl (by kernel_rfl)) rfl ?_
       exact ⟨_, by first | rfl | (simp [errW_none, errW_some] <;> rfl) | (simp [*, errW_none, errW_some] <;> rfl), by (with_reducible repeat (first | apply Kd.N_alloc | apply Kd.N_drewN | apply Kd.N_drew)); exact Kd.N_mono (Kd.N_far (p := ⟨gb228, 6, none⟩) (Kd.N_far (p := ⟨gb228, 5, none⟩) (Kd.N_far (p := ⟨gb228, 4, none⟩) (Kd.N_far (p := ⟨gb228, 3, none⟩) (Kd.N_far (p := ⟨gb228, 2, none⟩) (Kd.N_far (p := ⟨gb228, 1, none⟩) (Kd.N_far (p := ⟨gb228, 0, none⟩) (Kd.N_far (p := ⟨gb263, 6, none⟩) (Kd.N_far (p := ⟨gb263, 5, none⟩) (Kd.N_far (p := ⟨gb263, 4, none⟩) (Kd.N_far (p := ⟨gb263, 3, none⟩) (Kd.N_far (p := ⟨gb263, 2, none⟩) (Kd.N_far (p := ⟨gb263, 1, none⟩) (Kd.N_far (p := ⟨gb263, 0, none⟩) (Kd.N_mono (Kd.N_mono HO261.out (fun k_ hk => (⟨hk, hk.2⟩ : _ ∧ k_ ≠ gb263))) (fun k_ hk => (⟨hk, hk.1.1.2.2⟩ : _ ∧ k_ ≠ gb228))) (fun _ hk => hk.1.2) (.int .i64 t253)) (fun _ hk => hk.1.2) (.bool t254)) (fun _ hk => hk.1.2) (.int .i64 t255)) (fun _ hk => hk.1.2) (.string t256)) (fun _ hk => hk.1.2) (.string t257)) (fun _ hk => hk.1.2) (.string t258)) (fun _ hk => hk.1.2) (.slice Ao39 t259.length co39)) (fun _ hk => hk.2) (.int .i64 t253)) (fun _ hk => hk.2) (.bool t254)) (fun _ hk => hk.2) (.int .i64 t255)) (fun _ hk => hk.2) (.string t256)) (fun _ hk => hk.2) (.string t257)) (fun _ hk => hk.2) (.string t258)) (fun _ hk => hk.2) (.slice Ao39 t259.length co39)) (fun _ hk => hk.1.1.1.1), bl3 HB GE227 GE228 GE263⟩

/-! ### chancellaw5_within: function 85 -/
def chancellaw5_within.f (a0 : Int) (a1 : Int) : Option (Int) := if a1 = 0 then (none) else (if (Int.tmod a0 a1) < 0 then (some (wrap64 ((Int.tmod a0 a1) + a1))) else (some (Int.tmod a0 a1)))
set_option maxHeartbeats 8000000 in
set_option maxRecDepth 100000 in
theorem chancellaw5_within.calls (a0 : Int) (a1 : Int) (r : Int) (w : World) (h : chancellaw5_within.f a0 a1 = some r) :
  Calls Try.prog 85 #[.int .i64 a0, .int .i64 a1] w fun e w' => e = .returned (.int .i64 r) ∧ Drawn0 w w' := by
 have H : (if a1 = 0 then (none) else (if (Int.tmod a0 a1) < 0 then (some (wrap64 ((Int.tmod a0 a1) + a1))) else (some (Int.tmod a0 a1)))) = some r := h
 clear h
 by_cases c3 : a1 = 0
 ·
  rw [if_pos c3] at H
  exact absurd H (by simp)
 ·
  rw [if_neg c3] at H
  have c3b0 : (a1 == 0) = false := beq_eq_false_iff_ne.mpr c3
  have c3b1 : (a1 != 0) = true := bne_iff_ne.mpr c3
  by_cases c4 : (Int.tmod a0 a1) < 0
  ·
   rw [if_pos c4] at H
   have c4b0 : decide ((Int.tmod a0 a1) < 0) = true := decide_eq_true c4
   clear c4
   obtain rfl := Option.some.inj H
   go_enter Try.func85, Try.ntmps85
   go_wp2
   go_ret
   exact ⟨by first | rfl | (simp; done) | (simp [*]; done), by repeat (first | exact Drawn0.refl _ | apply Drawn0.step)⟩
  ·
   rw [if_neg c4] at H
   have c4b0 : decide ((Int.tmod a0 a1) < 0) = false := decide_eq_false c4
   clear c4
   obtain rfl := Option.some.inj H
   go_enter Try.func85, Try.ntmps85
   go_wp2
   go_ret
   exact ⟨by first | rfl | (simp; done) | (simp [*]; done), by repeat (first | exact Drawn0.refl _ | apply Drawn0.step)⟩

/-! ### chancellaw5_kind: function 84 -/
def chancellaw5_kind.f (a0 : Int) : Option (ByteArray) := (some (([(⟨#[85, 115, 101, 114]⟩ : ByteArray), (⟨#[71, 114, 111, 117, 112]⟩ : ByteArray), (⟨#[68, 111, 99]⟩ : ByteArray), (⟨#[84, 101, 97, 109]⟩ : ByteArray)] : List ByteArray) : List ByteArray)).bind fun y264 => ((chancellaw5_within.f a0 4).bind fun t267 => (if 0 ≤ t267 then (if t267 < (y264.length : Int) then (some (rdOf ByteArray.empty y264 t267)) else (none)) else (none)))
set_option maxHeartbeats 8000000 in
set_option maxRecDepth 100000 in
theorem chancellaw5_kind.calls (a0 : Int) (r : ByteArray) (w : World) (h : chancellaw5_kind.f a0 = some r) :
  Calls Try.prog 84 #[.int .i64 a0] w fun e w' => e = .returned (.string r) ∧ Below w.heap.size w w' := by
 have HB := aZ_ (Below.refl w.heap.size w)
 have H : ((some (([(⟨#[85, 115, 101, 114]⟩ : ByteArray), (⟨#[71, 114, 111, 117, 112]⟩ : ByteArray), (⟨#[68, 111, 99]⟩ : ByteArray), (⟨#[84, 101, 97, 109]⟩ : ByteArray)] : List ByteArray) : List ByteArray)).bind fun y264 => ((chancellaw5_within.f a0 4).bind fun t267 => (if 0 ≤ t267 then (if t267 < (y264.length : Int) then (some (rdOf ByteArray.empty y264 t267)) else (none)) else (none)))) = some r := h
 clear h
 obtain ⟨y264, hy264⟩ : ∃ y_ : List ByteArray, y_ = (([(⟨#[85, 115, 101, 114]⟩ : ByteArray), (⟨#[71, 114, 111, 117, 112]⟩ : ByteArray), (⟨#[68, 111, 99]⟩ : ByteArray), (⟨#[84, 101, 97, 109]⟩ : ByteArray)] : List ByteArray)) := ⟨_, rfl⟩
 replace H : ((chancellaw5_within.f a0 4).bind fun t267 => (if 0 ≤ t267 then (if t267 < (y264.length : Int) then (some (rdOf ByteArray.empty y264 t267)) else (none)) else (none))) = some r := by first | (rw [hy264]; with_reducible exact H) | (have H2_ := (Option.bind_some _ _).symm.trans H; rw [hy264]; with_reducible exact H2_) | (have H2_ := (Option.bind_some _ _).symm.trans H; with_reducible exact H2_) | with_reducible exact H | (rw [hy264]; exact H) | exact H
 have Ny264 := aZ_ hy264
 clear hy264
 replace H := Option.bind_eq_some_iff.mp H
 obtain ⟨t267, A20, H⟩ := H
 replace H : (if 0 ≤ t267 then (if t267 < (y264.length : Int) then (some (rdOf ByteArray.empty y264 t267)) else (none)) else (none)) = some r := H
 have A2 := aZ_ A20
 clear A20
 by_cases c3 : 0 ≤ t267
 ·
  rw [if_pos c3] at H
  have c3b0 : decide (0 ≤ t267) = true := decide_eq_true c3
  clear c3
  by_cases c4 : t267 < (y264.length : Int)
  ·
   rw [if_pos c4] at H
   have c4b0 : decide (t267 < (y264.length : Int)) = true := decide_eq_true c4
   clear c4
   obtain rfl := Option.some.inj H
   go_enter Try.func84, Try.ntmps84
   go_wp2_with (first | ((with_reducible refine gate_dst (N := 3) rfl ?_); refine Kd.R_lit Kd.string _ 9 ?hg (N := 3) ?hd (xs := ([(⟨#[85, 115, 101, 114]⟩ : ByteArray), (⟨#[71, 114, 111, 117, 112]⟩ : ByteArray), (⟨#[68, 111, 99]⟩ : ByteArray), (⟨#[84, 101, 97, 109]⟩ : ByteArray)] : List ByteArray)) (inner := [.string (⟨#[85, 115, 101, 114]⟩ : ByteArray), .string (⟨#[71, 114, 111, 117, 112]⟩ : ByteArray), .string (⟨#[68, 111, 99]⟩ : ByteArray), .string (⟨#[84, 101, 97, 109]⟩ : ByteArray)]) (ok := fun _ => True) (okp := fun _ => True) ?hr ?hp (fun _ hk => hk) trivial (Below.refl _ _) (Nat.le_refl _) (by simp) ?_; (case hd => rfl); (case hg => rfl); (case hr => first | (go_simp; done) | (go_simp; rfl)); (case hp => exact (Reps.one (show Kd.M Kd.string _ _ _ (⟨#[85, 115, 101, 114]⟩ : ByteArray) [.string (⟨#[85, 115, 101, 114]⟩ : ByteArray)] from rfl) (Reps.one (show Kd.M Kd.string _ _ _ (⟨#[71, 114, 111, 117, 112]⟩ : ByteArray) [.string (⟨#[71, 114, 111, 117, 112]⟩ : ByteArray)] from rfl) (Reps.one (show Kd.M Kd.string _ _ _ (⟨#[68, 111, 99]⟩ : ByteArray) [.string (⟨#[68, 111, 99]⟩ : ByteArray)] from rfl) (Reps.one (show Kd.M Kd.string _ _ _ (⟨#[84, 101, 97, 109]⟩ : ByteArray) [.string (⟨#[84, 101, 97, 109]⟩ : ByteArray)] from rfl) (Reps.none _ _)))))); intro v265 w5 ho6 hb hg_ hnew_; clear hg_ hnew_; (first | rw [← Ny264.out] at ho6 | (simp only [Int.reduceToNat] at ho6; rw [← Ny264.out] at ho6)); have HO266 := aZ_ (Kd.R_lower ho6 (below_size (bl HB))); replace HB := aZ_ (below_step (bl HB) hb); clear hb ho6) | ((with_reducible refine gate_callee (f := 85) rfl ?_); refine goesL_ (some 5) rfl rfl Try.func85 (by kernel_rfl) rfl #[.int .i64 a0, .int .i64 4] rfl gm_ ?_; (with_reducible refine (chancellaw5_within.calls a0 4 t267 _ A2.out).mono ?_); rintro e w' ⟨rfl, ⟨nd, rfl⟩⟩; refine ⟨_, rfl, ?_⟩; obtain ⟨Ao7, co7, eo7⟩ := Kd.R_slice HO266.out; subst eo7; have p268 : 0 ≤ (t267 : Int) := of_decide_eq_true asm_; have q268 : t267 < (y264.length : Int) := of_decide_eq_true asm_; obtain ⟨ad268, e268, hx268_0⟩ := Kd.at_string (Kd.R_reads' HO266.out).2.2 t267 p268 q268; cases e268; replace p268 := eq_true p268; replace q268 := eq_true q268))
   go_ret
   exact ⟨by first | rfl | (simp [errW_none, errW_some] <;> rfl) | (simp [*, errW_none, errW_some] <;> rfl), bl HB⟩
  ·
   rw [if_neg c4] at H
   exact absurd H (by simp)
 ·
  rw [if_neg c3] at H
  exact absurd H (by simp)

/-! ### chancellaw5_name: function 86 -/
def chancellaw5_name.f (a0 : Int) : Option (ByteArray) := (some (([(⟨#[97]⟩ : ByteArray), (⟨#[97, 103, 101]⟩ : ByteArray), (⟨#[105, 102]⟩ : ByteArray), (⟨#[99, 111, 110, 116, 97, 105, 110, 115]⟩ : ByteArray), (⟨#[112, 114, 105, 110, 99, 105, 112, 97, 108]⟩ : ByteArray), (⟨#[95, 120]⟩ : ByteArray), (⟨#[110, 97, 109, 101]⟩ : ByteArray)] : List ByteArray) : List ByteArray)).bind fun y269 => ((chancellaw5_within.f a0 7).bind fun t272 => (if 0 ≤ t272 then (if t272 < (y269.length : Int) then (some (rdOf ByteArray.empty y269 t272)) else (none)) else (none)))
set_option maxHeartbeats 8000000 in
set_option maxRecDepth 100000 in
theorem chancellaw5_name.calls (a0 : Int) (r : ByteArray) (w : World) (h : chancellaw5_name.f a0 = some r) :
  Calls Try.prog 86 #[.int .i64 a0] w fun e w' => e = .returned (.string r) ∧ Below w.heap.size w w' := by
 have HB := aZ_ (Below.refl w.heap.size w)
 have H : ((some (([(⟨#[97]⟩ : ByteArray), (⟨#[97, 103, 101]⟩ : ByteArray), (⟨#[105, 102]⟩ : ByteArray), (⟨#[99, 111, 110, 116, 97, 105, 110, 115]⟩ : ByteArray), (⟨#[112, 114, 105, 110, 99, 105, 112, 97, 108]⟩ : ByteArray), (⟨#[95, 120]⟩ : ByteArray), (⟨#[110, 97, 109, 101]⟩ : ByteArray)] : List ByteArray) : List ByteArray)).bind fun y269 => ((chancellaw5_within.f a0 7).bind fun t272 => (if 0 ≤ t272 then (if t272 < (y269.length : Int) then (some (rdOf ByteArray.empty y269 t272)) else (none)) else (none)))) = some r := h
 clear h
 obtain ⟨y269, hy269⟩ : ∃ y_ : List ByteArray, y_ = (([(⟨#[97]⟩ : ByteArray), (⟨#[97, 103, 101]⟩ : ByteArray), (⟨#[105, 102]⟩ : ByteArray), (⟨#[99, 111, 110, 116, 97, 105, 110, 115]⟩ : ByteArray), (⟨#[112, 114, 105, 110, 99, 105, 112, 97, 108]⟩ : ByteArray), (⟨#[95, 120]⟩ : ByteArray), (⟨#[110, 97, 109, 101]⟩ : ByteArray)] : List ByteArray)) := ⟨_, rfl⟩
 replace H : ((chancellaw5_within.f a0 7).bind fun t272 => (if 0 ≤ t272 then (if t272 < (y269.length : Int) then (some (rdOf ByteArray.empty y269 t272)) else (none)) else (none))) = some r := by first | (rw [hy269]; with_reducible exact H) | (have H2_ := (Option.bind_some _ _).symm.trans H; rw [hy269]; with_reducible exact H2_) | (have H2_ := (Option.bind_some _ _).symm.trans H; with_reducible exact H2_) | with_reducible exact H | (rw [hy269]; exact H) | exact H
 have Ny269 := aZ_ hy269
 clear hy269
 replace H := Option.bind_eq_some_iff.mp H
 obtain ⟨t272, A20, H⟩ := H
 replace H : (if 0 ≤ t272 then (if t272 < (y269.length : Int) then (some (rdOf ByteArray.empty y269 t272)) else (none)) else (none)) = some r := H
 have A2 := aZ_ A20
 clear A20
 by_cases c3 : 0 ≤ t272
 ·
  rw [if_pos c3] at H
  have c3b0 : decide (0 ≤ t272) = true := decide_eq_true c3
  clear c3
  by_cases c4 : t272 < (y269.length : Int)
  ·
   rw [if_pos c4] at H
   have c4b0 : decide (t272 < (y269.length : Int)) = true := decide_eq_true c4
   clear c4
   obtain rfl := Option.some.inj H
   go_enter Try.func86, Try.ntmps86
   go_wp2_with (first | ((with_reducible refine gate_dst (N := 3) rfl ?_); refine Kd.R_lit Kd.string _ 9 ?hg (N := 3) ?hd (xs := ([(⟨#[97]⟩ : ByteArray), (⟨#[97, 103, 101]⟩ : ByteArray), (⟨#[105, 102]⟩ : ByteArray), (⟨#[99, 111, 110, 116, 97, 105, 110, 115]⟩ : ByteArray), (⟨#[112, 114, 105, 110, 99, 105, 112, 97, 108]⟩ : ByteArray), (⟨#[95, 120]⟩ : ByteArray), (⟨#[110, 97, 109, 101]⟩ : ByteArray)] : List ByteArray)) (inner := [.string (⟨#[97]⟩ : ByteArray), .string (⟨#[97, 103, 101]⟩ : ByteArray), .string (⟨#[105, 102]⟩ : ByteArray), .string (⟨#[99, 111, 110, 116, 97, 105, 110, 115]⟩ : ByteArray), .string (⟨#[112, 114, 105, 110, 99, 105, 112, 97, 108]⟩ : ByteArray), .string (⟨#[95, 120]⟩ : ByteArray), .string (⟨#[110, 97, 109, 101]⟩ : ByteArray)]) (ok := fun _ => True) (okp := fun _ => True) ?hr ?hp (fun _ hk => hk) trivial (Below.refl _ _) (Nat.le_refl _) (by simp) ?_; (case hd => rfl); (case hg => rfl); (case hr => first | (go_simp; done) | (go_simp; rfl)); (case hp => exact (Reps.one (show Kd.M Kd.string _ _ _ (⟨#[97]⟩ : ByteArray) [.string (⟨#[97]⟩ : ByteArray)] from rfl) (Reps.one (show Kd.M Kd.string _ _ _ (⟨#[97, 103, 101]⟩ : ByteArray) [.string (⟨#[97, 103, 101]⟩ : ByteArray)] from rfl) (Reps.one (show Kd.M Kd.string _ _ _ (⟨#[105, 102]⟩ : ByteArray) [.string (⟨#[105, 102]⟩ : ByteArray)] from rfl) (Reps.one (show Kd.M Kd.string _ _ _ (⟨#[99, 111, 110, 116, 97, 105, 110, 115]⟩ : ByteArray) [.string (⟨#[99, 111, 110, 116, 97, 105, 110, 115]⟩ : ByteArray)] from rfl) (Reps.one (show Kd.M Kd.string _ _ _ (⟨#[112, 114, 105, 110, 99, 105, 112, 97, 108]⟩ : ByteArray) [.string (⟨#[112, 114, 105, 110, 99, 105, 112, 97, 108]⟩ : ByteArray)] from rfl) (Reps.one (show Kd.M Kd.string _ _ _ (⟨#[95, 120]⟩ : ByteArray) [.string (⟨#[95, 120]⟩ : ByteArray)] from rfl) (Reps.one (show Kd.M Kd.string _ _ _ (⟨#[110, 97, 109, 101]⟩ : ByteArray) [.string (⟨#[110, 97, 109, 101]⟩ : ByteArray)] from rfl) (Reps.none _ _))))))))); intro v270 w5 ho6 hb hg_ hnew_; clear hg_ hnew_; (first | rw [← Ny269.out] at ho6 | (simp only [Int.reduceToNat] at ho6; rw [← Ny269.out] at ho6)); have HO271 := aZ_ (Kd.R_lower ho6 (below_size (bl HB))); replace HB := aZ_ (below_step (bl HB) hb); clear hb ho6) | ((with_reducible refine gate_callee (f := 85) rfl ?_); refine goesL_ (some 5) rfl rfl Try.func85 (by kernel_rfl) rfl #[.int .i64 a0, .int .i64 7] rfl gm_ ?_; (with_reducible refine (chancellaw5_within.calls a0 7 t272 _ A2.out).mono ?_); rintro e w' ⟨rfl, ⟨nd, rfl⟩⟩; refine ⟨_, rfl, ?_⟩; obtain ⟨Ao7, co7, eo7⟩ := Kd.R_slice HO271.out; subst eo7; have p273 : 0 ≤ (t272 : Int) := of_decide_eq_true asm_; have q273 : t272 < (y269.length : Int) := of_decide_eq_true asm_; obtain ⟨ad273, e273, hx273_0⟩ := Kd.at_string (Kd.R_reads' HO271.out).2.2 t272 p273 q273; cases e273; replace p273 := eq_true p273; replace q273 := eq_true q273))
   go_ret
   exact ⟨by first | rfl | (simp [errW_none, errW_some] <;> rfl) | (simp [*, errW_none, errW_some] <;> rfl), bl HB⟩
  ·
   rw [if_neg c4] at H
   exact absurd H (by simp)
 ·
  rw [if_neg c3] at H
  exact absurd H (by simp)

end Go.Proofs.Ytfmghijmcgkpiaa.GO
