-- Written by wip/tools/gprint.py over the kit's printer.
import Derived.Test.YtelibndkkokadaaGB0
import Derived.Test.YtelibndkkokadaaJk
import Derived.Test.YtelibndkkokadaaJc
import Derived.Test.YtelibndkkokadaaJg
import Derived.Test.YtelibndkkokadaaJe
import Derived.Test.YtelibndkkokadaaJh
import Derived.Test.YtelibndkkokadaaGB17
import Derived.Test.YtelibndkkokadaaJi
import Derived.Test.YtelibndkkokadaaSqz
namespace Go.Proofs.Ytelibndkkokadaa.GB
open Go.RowKit Go.Proofs.YtelibndkkokadaaW.PrintWords Go.Proofs.YtelibndkkokadaaW.PrintLast Go.Proofs.Ytelibndkkokadaa.HandV Go.Proofs.YtelibndkkokadaaW.PrintMore
attribute [local go_sem] max2_int min2_int max_two min_two max_three min_three max_four min_four   -- for this text's walks alone
set_option linter.unusedVariables false
set_option linter.unusedSimpArgs false

attribute [local go_sem high] eqA28
/-! ### chancellaw9_AboveCircles: function 7 -/
mutual
def chancellaw9_AboveCircles.j1 : Nat → List (S38) → ByteArray → ByteArray → ByteArray → ByteArray → List (S28) → Option (Bool)
 | 0, _, _, _, _, _, _ => none
 | k + 1, x7, x616000, x616001, x617000, x617001, x617002 => (chancelref8_Put.f k x7 x617000 x617001 x617002 ([] : List (S58))).bind fun t623 => ((above_Above.f t623 x616000 x616001).bind fun t626 => (chancellaw9_AboveCircles.l1 k x7 false t626 0 x616000 x616001 x617000 x617001 x617002))
def chancellaw9_AboveCircles.l1 : Nat → List (S38) → Bool → List (S28) → Int → ByteArray → ByteArray → ByteArray → ByteArray → List (S28) → Option (Bool)
 | 0, _, _, _, _, _, _, _, _, _ => none
 | k + 1, x7, x12, x13, x14, x616000, x616001, x617000, x617001, x617002 => if x14 < (x13.length : Int) then (if x12 = true then (chancellaw9_AboveCircles.l1 k x7 true x13 (wrap64 (x14 + 1)) x616000 x616001 x617000 x617001 x617002) else (if 0 ≤ x14 then (chancellaw9_AboveCircles.l1 k x7 ((((rd_T28 x13 x14).f0).toList) == x616000.toList && ((((rd_T28 x13 x14).f1).toList) == x616001.toList)) x13 (wrap64 (x14 + 1)) x616000 x616001 x617000 x617001 x617002) else (none))) else ((above_Circle.f x7 x616000 x616001 x617002).bind fun t630 => (some (t630 == x12)))
def chancellaw9_AboveCircles.l0 : Nat → List Int → List (S38) → Int → ByteArray → ByteArray → ByteArray → ByteArray → List (S28) → Option (Bool)
 | 0, _, _, _, _, _, _, _, _ => none
 | k + 1, x2, x7, x10, x616000, x616001, x617000, x617001, x617002 => if x10 < (x2.length : Int) then (if x10 < 4 then (if 0 ≤ x10 then ((chancellaw9_pick.f k x7 (rd x2 x10)).bind fun bt618 => (if x617002.length < 4398046511104 then (chancellaw9_AboveCircles.l0 k x2 x7 (wrap64 (x10 + 1)) x616000 x616001 x617000 x617001 (x617002 ++ [(⟨bt618.1, bt618.2⟩ : S28)])) else (none))) else (none)) else (chancellaw9_AboveCircles.j1 k x7 x616000 x616001 x617000 x617001 x617002)) else (chancellaw9_AboveCircles.j1 k x7 x616000 x616001 x617000 x617001 x617002)
end
def chancellaw9_AboveCircles.g (k : Nat) (t610 : List (S38)) (a1 : Int) (l2 : List Int) : Option (Bool) := ((chancellaw9_pick.f k t610 a1).bind fun bt613 => (chancellaw9_AboveCircles.l0 k l2 t610 0 bt613.1 bt613.2 bt613.1 bt613.2 ([] : List (S28))))
theorem chancellaw9_AboveCircles.mono_l : ∀ k, (∀ y0 y1 y2 y3 y4 y5, LeO (chancellaw9_AboveCircles.j1 k y0 y1 y2 y3 y4 y5) (chancellaw9_AboveCircles.j1 (k + 1) y0 y1 y2 y3 y4 y5)) ∧ (∀ y0 y1 y2 y3 y4 y5 y6 y7 y8, LeO (chancellaw9_AboveCircles.l1 k y0 y1 y2 y3 y4 y5 y6 y7 y8) (chancellaw9_AboveCircles.l1 (k + 1) y0 y1 y2 y3 y4 y5 y6 y7 y8)) ∧ (∀ y0 y1 y2 y3 y4 y5 y6 y7, LeO (chancellaw9_AboveCircles.l0 k y0 y1 y2 y3 y4 y5 y6 y7) (chancellaw9_AboveCircles.l0 (k + 1) y0 y1 y2 y3 y4 y5 y6 y7))
 | 0 => ⟨fun _ _ _ _ _ _ r h => by simp [chancellaw9_AboveCircles.j1] at h, fun _ _ _ _ _ _ _ _ _ r h => by simp [chancellaw9_AboveCircles.l1] at h, fun _ _ _ _ _ _ _ _ r h => by simp [chancellaw9_AboveCircles.l0] at h⟩
 | k + 1 => by
  obtain ⟨ih0, ih1, ih2⟩ := chancellaw9_AboveCircles.mono_l k
  refine ⟨?_, ?_, ?_⟩
  ·
   intro y0 y1 y2 y3 y4 y5
   unfold chancellaw9_AboveCircles.j1
   repeat' first
   | (with_reducible exact ih0 _ _ _ _ _ _)
   | (with_reducible exact ih1 _ _ _ _ _ _ _ _ _)
   | (with_reducible exact ih2 _ _ _ _ _ _ _ _)
   | (with_reducible exact chancellaw9_pick.mono _ _ _)
   | (with_reducible exact chancelref8_Put.mono _ _ _ _ _ _)
   | (with_reducible exact LeO.refl _)
   | (with_reducible exact LeO.none _)
   | (with_reducible refine LeO.ite ?_ ?_)
   | (with_reducible refine LeO.bind ?_ (fun _ => ?_))
   | exact ih0 _ _ _ _ _ _
   | exact ih1 _ _ _ _ _ _ _ _ _
   | exact ih2 _ _ _ _ _ _ _ _
   | exact chancellaw9_pick.mono _ _ _
   | exact chancelref8_Put.mono _ _ _ _ _ _
   | exact LeO.none _
   | refine LeO.ite ?_ ?_
   | refine LeO.bind ?_ (fun _ => ?_)
  ·
   intro y0 y1 y2 y3 y4 y5 y6 y7 y8
   unfold chancellaw9_AboveCircles.l1
   repeat' first
   | (with_reducible exact ih0 _ _ _ _ _ _)
   | (with_reducible exact ih1 _ _ _ _ _ _ _ _ _)
   | (with_reducible exact ih2 _ _ _ _ _ _ _ _)
   | (with_reducible exact chancellaw9_pick.mono _ _ _)
   | (with_reducible exact chancelref8_Put.mono _ _ _ _ _ _)
   | (with_reducible exact LeO.refl _)
   | (with_reducible exact LeO.none _)
   | (with_reducible refine LeO.ite ?_ ?_)
   | (with_reducible refine LeO.bind ?_ (fun _ => ?_))
   | exact ih0 _ _ _ _ _ _
   | exact ih1 _ _ _ _ _ _ _ _ _
   | exact ih2 _ _ _ _ _ _ _ _
   | exact chancellaw9_pick.mono _ _ _
   | exact chancelref8_Put.mono _ _ _ _ _ _
   | exact LeO.none _
   | refine LeO.ite ?_ ?_
   | refine LeO.bind ?_ (fun _ => ?_)
  ·
   intro y0 y1 y2 y3 y4 y5 y6 y7
   unfold chancellaw9_AboveCircles.l0
   repeat' first
   | (with_reducible exact ih0 _ _ _ _ _ _)
   | (with_reducible exact ih1 _ _ _ _ _ _ _ _ _)
   | (with_reducible exact ih2 _ _ _ _ _ _ _ _)
   | (with_reducible exact chancellaw9_pick.mono _ _ _)
   | (with_reducible exact chancelref8_Put.mono _ _ _ _ _ _)
   | (with_reducible exact LeO.refl _)
   | (with_reducible exact LeO.none _)
   | (with_reducible refine LeO.ite ?_ ?_)
   | (with_reducible refine LeO.bind ?_ (fun _ => ?_))
   | exact ih0 _ _ _ _ _ _
   | exact ih1 _ _ _ _ _ _ _ _ _
   | exact ih2 _ _ _ _ _ _ _ _
   | exact chancellaw9_pick.mono _ _ _
   | exact chancelref8_Put.mono _ _ _ _ _ _
   | exact LeO.none _
   | refine LeO.ite ?_ ?_
   | refine LeO.bind ?_ (fun _ => ?_)
def chancellaw9_AboveCircles.T9 : Bool × List (List Nat × List Nat) := (true, [([], []), ([0], [0]), ([], []), ([], []), ([], []), ([3, 4], [3, 4]), ([5], [5]), ([2, 6], [2, 6]), ([7], [7]), ([1, 8, 7], [1, 8]), ([0, 1, 2, 3, 4, 5, 6, 7, 8, 9], []), ([10, 9, 9, 0, 1, 2, 3, 4, 5, 6, 7, 8, 9], [9, 10])])
def chancellaw9_AboveCircles.B9 : List Nat := [0, 1, 0, 0, 0, 24, 56, 124, 252, 511, 1023, 2047]
theorem chancellaw9_AboveCircles.tab9 : rtab .any (opsOf Try.f7 9) = chancellaw9_AboveCircles.T9 := by kernel_rfl
theorem chancellaw9_AboveCircles.bits9 : waitsOk chancellaw9_AboveCircles.T9.2 chancellaw9_AboveCircles.B9 = true := by kernel_rfl
def chancellaw9_AboveCircles.T16 : Bool × List (List Nat × List Nat) := (true, [([], []), ([0], [0]), ([1], [1]), ([1], [1]), ([2, 3, 1], [1, 2, 3]), ([4, 1], [1, 4]), ([1], [1]), ([5, 6, 1], [1, 5, 6]), ([1, 7], [1, 7]), ([8, 1, 0, 1, 2, 3, 4, 5, 6, 7, 8], [0, 8])])
def chancellaw9_AboveCircles.B16 : List Nat := [0, 1, 3, 3, 15, 31, 3, 127, 255, 511]
theorem chancellaw9_AboveCircles.tab16 : rtab .any (opsOf Try.f7 16) = chancellaw9_AboveCircles.T16 := by kernel_rfl
theorem chancellaw9_AboveCircles.bits16 : waitsOk chancellaw9_AboveCircles.T16.2 chancellaw9_AboveCircles.B16 = true := by kernel_rfl
set_option maxHeartbeats 8000000 in
set_option maxRecDepth 100000 in
theorem chancellaw9_AboveCircles.calls (A0 : Option Addr) (c0 : Nat) (l0 : List (S49)) (a1 : Int) (A2 : Option Addr) (c2 : Nat) (l2 : List Int) (r : Bool) (w : World) (hr0 : Kd.C k49 w A0 l0.length l0) (hc0 : l0.length ≤ c0) (hr2 : Kd.C (Kd.int .i64) w A2 l2.length l2) (hc2 : l2.length ≤ c2) (h : ∀ g, GP.AnyG g → ∃ k, chancellaw9_AboveCircles.g k g a1 l2 = some r) :
  Calls Try.prog 7 #[.slice A0 l0.length c0, .int .i64 a1, .slice A2 l2.length c2] w fun e w' => e = .returned (.bool r) ∧ Below w.heap.size w w' := by
 have hu28 := Try.underlying28
 have hu38 := Try.underlying38
 have HR0 := aZ_ hr0
 have HC0 := aZ_ hc0
 clear hr0 hc0
 have HR2 := aZ_ hr2
 have HC2 := aZ_ hc2
 clear hr2 hc2
 have HB := aZ_ (Below.refl w.heap.size w)
 have A4 := aZ_ (rfl : chancellaw9_known.f = some true)
 have HH := aZ_ h
 clear h
 go_enter Try.func7, Try.ntmps7
 go_upto_region 4 with (first | (go_at_call 13; refine (chancellaw9_known.calls  true _ A4.out).mono ?_; rintro e w9 ⟨rfl, hb⟩; replace HB := aZ_ (below_step (bl HB) hb); (try clear hb); (try clear hb2); (try clear hk); (try clear hi)) | (go_at_call 14; refine (GA.rgood8 l0 _ _ _ ?side1 ?side2).mono ?_; (case side1 => exact kC (Kd.C_below HR0.out HB.out)); (case side2 => exact HC0.out); rintro e wG ⟨vG, t610, rfl, hag_, ho0, hb⟩; have HAG := aZ_ hag_; clear hag_; have HO612 := aZ_ (Kd.N_lower (Kd.N_mono (ok' := fun k_ => True) ho0 (fun k_ hk_ => trivial)) (below_size (bl HB))); replace HB := aZ_ (below_step (bl HB) hb); (try clear hb); (try clear hb2); (try clear hk); (try clear hi); (try clear ho0); obtain ⟨AoG, coG, eoG⟩ := Kd.N_slice HO612.out; subst eoG))
 obtain ⟨k, H⟩ := HH.out t610 HAG.out
 clear HH
 replace H : ((chancellaw9_pick.f k t610 a1).bind fun bt613 => (chancellaw9_AboveCircles.l0 k l2 t610 0 bt613.1 bt613.2 bt613.1 bt613.2 ([] : List (S28)))) = some r := H
 by_cases c5 : True
 ·
  clear c5
  replace H := Option.bind_eq_some_iff.mp H
  obtain ⟨⟨t613, t614⟩, A70, H⟩ := H
  replace H : (chancellaw9_AboveCircles.l0 k l2 t610 0 t613 t614 t613 t614 ([] : List (S28))) = some r := H
  have A7 := aZ_ A70
  clear A70
  have HC8 := aZ_ H
  clear H
  go_upto_block 0 with (first | ((with_reducible refine gate_callee (f := 15) rfl ?_); refine goesL_ (some 21) rfl rfl Try.func15 (by kernel_rfl) rfl #[.slice AoG t610.length coG, .int .i64 a1] rfl gm_ ?_; (with_reducible refine (chancellaw9_pick.calls k _ _ t610 a1 t613 t614 _ ?side1 ?side2 A7.out).mono ?_); (case side1 => repeat (first | exact (Kd.N_reads' HO612.out).2.2 | (with_reducible refine Kd.C_alloc ?_ _) | (with_reducible refine Kd.C_drewN ?_ _) | (with_reducible refine Kd.C_drew ?_))); (case side2 => exact (Kd.N_reads' HO612.out).2.1); rintro e w12 ⟨rfl, hb⟩; refine ⟨_, rfl, ?_⟩; replace HO612 := aZ_ (Kd.N_below (kN HO612) hb); replace HB := aZ_ (below_step (bl HB) hb); (try clear hb); (try clear hb2); (try clear hk); (try clear hi)) | ((with_reducible refine gate_dst (N := 8) rfl ?_); refine bxE 8 #[.string (⟨#[]⟩ : ByteArray), .string (⟨#[]⟩ : ByteArray)] 28 ?_; intro gb615 hg w13 hbox hb; replace HO612 := aZ_ (Kd.N_below (Kd.N_elderB (kN HO612) gb615 (Nat.le_of_eq hg.symm)) hb); have BK615 := aZ_ (hbox); have GW615 := aZ_ ((by rw [hg]; exact (below_size (bl HB)) : w.heap.size ≤ gb615)); have GE615 := aZ_ ((by rw [hg]; exact (below_size (bl HB)) : w.heap.size ≤ gb615)); replace HB := aZ_ (below_step (bl HB) hb); clear hb hbox hg; obtain ⟨hcz14_0, hcz14_1, hfz14_0, hfz14_1⟩ := bc2 BK615) | ((with_reducible refine gate_dst (N := 9) rfl ?_); refine bxE 9 #[.string (⟨#[]⟩ : ByteArray), .string (⟨#[]⟩ : ByteArray), .slice none 0 0, .slice none 0 0] 38 ?_; intro gb616 hg w15 hbox hb; replace HO612 := aZ_ (Kd.N_below (Kd.N_elderB (by (with_reducible repeat (first | apply Kd.N_alloc | apply Kd.N_drewN | apply Kd.N_drew)); exact (Kd.N_mono (Kd.N_far (p := ⟨gb615, 1, none⟩) (Kd.N_far (p := ⟨gb615, 0, none⟩) (Kd.N_mono HO612.out (fun k_ hk => (⟨hk, hk.2⟩ : _ ∧ k_ ≠ gb615))) (fun _ hk => hk.2) (.string t613)) (fun _ hk => hk.2) (.string t614)) (fun _ h_ => h_.1))) gb616 (Nat.le_of_eq hg.symm)) hb); have BK616 := aZ_ (hbox); have GW616 := aZ_ ((by rw [hg]; exact (below_size (bl1 HB GE615)) : w.heap.size ≤ gb616)); have GE616 := aZ_ ((by rw [hg]; exact (below_size (bl1 HB GE615)) : w.heap.size ≤ gb616)); replace HB := aZ_ (below_step (bl1 HB GE615) hb); have NB615_616 := aZ_ ((by rw [hg]; exact Nat.ne_of_lt (blk_lt (g := gb615) (o := .cells #[.string t613, .string t614] 28 (0, 0)) (by (with_reducible repeat (first | refine blk_drewN ?_ _ | refine blk_drew ?_ | refine blk_alloc ?_ _)); refine blk_put (cs := #[.string t613, .string (⟨#[]⟩ : ByteArray)]) ?_ 1 _ rfl; (with_reducible repeat (first | refine blk_drewN ?_ _ | refine blk_drew ?_ | refine blk_alloc ?_ _)); refine blk_put (cs := #[.string (⟨#[]⟩ : ByteArray), .string (⟨#[]⟩ : ByteArray)]) ?_ 0 _ rfl; (with_reducible repeat (first | refine blk_drewN ?_ _ | refine blk_drew ?_ | refine blk_alloc ?_ _)); exact BK615.out)) : gb615 ≠ gb616)); have NB616_615 := aZ_ ((by rw [hg]; exact Nat.ne_of_gt (blk_lt (g := gb615) (o := .cells #[.string t613, .string t614] 28 (0, 0)) (by (with_reducible repeat (first | refine blk_drewN ?_ _ | refine blk_drew ?_ | refine blk_alloc ?_ _)); refine blk_put (cs := #[.string t613, .string (⟨#[]⟩ : ByteArray)]) ?_ 1 _ rfl; (with_reducible repeat (first | refine blk_drewN ?_ _ | refine blk_drew ?_ | refine blk_alloc ?_ _)); refine blk_put (cs := #[.string (⟨#[]⟩ : ByteArray), .string (⟨#[]⟩ : ByteArray)]) ?_ 0 _ rfl; (with_reducible repeat (first | refine blk_drewN ?_ _ | refine blk_drew ?_ | refine blk_alloc ?_ _)); exact BK615.out)) : gb616 ≠ gb615)); replace BK615 := aZ_ (blk_below (g := gb615) (o := .cells #[.string t613, .string t614] 28 (0, 0)) (by (with_reducible repeat (first | refine blk_drewN ?_ _ | refine blk_drew ?_ | refine blk_alloc ?_ _)); refine blk_put (cs := #[.string t613, .string (⟨#[]⟩ : ByteArray)]) ?_ 1 _ rfl; (with_reducible repeat (first | refine blk_drewN ?_ _ | refine blk_drew ?_ | refine blk_alloc ?_ _)); refine blk_put (cs := #[.string (⟨#[]⟩ : ByteArray), .string (⟨#[]⟩ : ByteArray)]) ?_ 0 _ rfl; (with_reducible repeat (first | refine blk_drewN ?_ _ | refine blk_drew ?_ | refine blk_alloc ?_ _)); exact BK615.out) hb); clear hb hbox hg; have hnb16 := NB616_615.out; have hnc16 := NB615_616.out; obtain ⟨hcz17_0, hcz17_1, hcz17_2, hcz17_3, hfz17_0, hfz17_1, hfz17_2, hfz17_3⟩ := bc4 BK616))
  (try simp only [Act.put, List.setIfInBounds_toArray, List.set_cons_zero, List.set_cons_succ])
  go_cut [] (fun wc => ∃ (kq : Nat) (x617002_7 : List (S28)) (u617002 : Value), Aside0 (chancellaw9_AboveCircles.j1 kq t610 t613 t614 t613 t614 x617002_7 = some r) ∧ Aside0 (kq ≤ k) ∧ Aside0 (Kd.N k38 38 wc w.heap.size (fun k_ => some k_ ≠ (u617002 : Value).ownBlock ∧ k_ ≠ gb615 ∧ k_ ≠ gb616) (.slice AoG t610.length coG) t610) ∧ Aside0 (Kd.R k28 28 wc w.heap.size (fun k_ => k_ ≠ gb615) u617002 x617002_7) ∧ Aside0 (wc.heap[gb615]? = some (.cells #[.string t613, .string t614] 28 (0, 0))) ∧ Aside0 (wc.heap[gb616]? = some (.cells #[.string t613, .string t614, u617002, (.slice none 0 0)] 38 (0, 0))) ∧ Aside0 (Below w.heap.size w wc))
  case first =>
   have H := HC8.out
   clear HC8
   have H' := aZ_ H
   clear H
   go_wp2
   go_loopg [10] k (fun kq v10 w' => ∃ (x10_1 : Int) (x617002_1 : List (S28)) (u617002 : Value), v10 = .int .i64 x10_1 ∧ Aside0 (chancellaw9_AboveCircles.l0 kq l2 t610 x10_1 t613 t614 t613 t614 x617002_1 = some r) ∧ Aside0 (kq ≤ k) ∧ Aside0 (Kd.N k38 38 w' w.heap.size (fun k_ => some k_ ≠ (u617002 : Value).ownBlock ∧ k_ ≠ gb615 ∧ k_ ≠ gb616) (.slice AoG t610.length coG) t610) ∧ Aside0 (Kd.R k28 28 w' w.heap.size (fun k_ => k_ ≠ gb615) u617002 x617002_1) ∧ Aside0 (w'.heap[gb615]? = some (.cells #[.string t613, .string t614] 28 (0, 0))) ∧ Aside0 (w'.heap[gb616]? = some (.cells #[.string t613, .string t614, u617002, (.slice none 0 0)] 38 (0, 0))) ∧ Aside0 (Below w.heap.size w w'))
   case atStart => exact ⟨(0), (([] : List (S28))), (.slice none 0 0), rf_, H', ⟨Nat.le_refl _⟩, ⟨by (with_reducible repeat (first | apply Kd.N_alloc | apply Kd.N_drewN | apply Kd.N_drew)); exact Kd.N_mono (Kd.N_far (p := ⟨gb616, 3, none⟩) (Kd.N_far (p := ⟨gb616, 2, none⟩) (Kd.N_far (p := ⟨gb616, 1, none⟩) (Kd.N_far (p := ⟨gb616, 0, none⟩) (Kd.N_mono HO612.out (fun k_ hk => (⟨hk, hk.2⟩ : _ ∧ k_ ≠ gb616))) (fun _ hk => hk.2) (.string t613)) (fun _ hk => hk.2) (.string t614)) (fun _ hk => hk.2) (.slice none 0 0)) (fun _ hk => hk.2) (.slice none 0 0)) (fun _ hk => ⟨(by simp [Value.ownBlock]), ⟨hk.1.1.2, hk.1.2⟩⟩)⟩, ⟨by first | exact Kd.R_nil _ _ _ _ _ | exact Kd.N_nil _ _ _ _ _ | exact Kd.V_nil _ _ _ _ _ | exact Kd.Q_nil _ _ _ _ _ | exact Kd.S_nil _ _ _ _ _⟩, ⟨by (with_reducible repeat (first | refine blk_drewN ?_ _ | refine blk_drew ?_ | refine blk_alloc ?_ _)); refine blk_far ?_ NB615_616.out _; (with_reducible repeat (first | refine blk_drewN ?_ _ | refine blk_drew ?_ | refine blk_alloc ?_ _)); refine blk_far ?_ NB615_616.out _; (with_reducible repeat (first | refine blk_drewN ?_ _ | refine blk_drew ?_ | refine blk_alloc ?_ _)); refine blk_far ?_ NB615_616.out _; (with_reducible repeat (first | refine blk_drewN ?_ _ | refine blk_drew ?_ | refine blk_alloc ?_ _)); refine blk_far ?_ NB615_616.out _; (with_reducible repeat (first | refine blk_drewN ?_ _ | refine blk_drew ?_ | refine blk_alloc ?_ _)); exact BK615.out⟩, ⟨by (with_reducible repeat (first | refine blk_drewN ?_ _ | refine blk_drew ?_ | refine blk_alloc ?_ _)); refine blk_put (cs := #[.string t613, .string t614, .slice none 0 0, .slice none 0 0]) ?_ 3 _ rfl; (with_reducible repeat (first | refine blk_drewN ?_ _ | refine blk_drew ?_ | refine blk_alloc ?_ _)); refine blk_put (cs := #[.string t613, .string t614, .slice none 0 0, .slice none 0 0]) ?_ 2 _ rfl; (with_reducible repeat (first | refine blk_drewN ?_ _ | refine blk_drew ?_ | refine blk_alloc ?_ _)); refine blk_put (cs := #[.string t613, .string (⟨#[]⟩ : ByteArray), .slice none 0 0, .slice none 0 0]) ?_ 1 _ rfl; (with_reducible repeat (first | refine blk_drewN ?_ _ | refine blk_drew ?_ | refine blk_alloc ?_ _)); refine blk_put (cs := #[.string (⟨#[]⟩ : ByteArray), .string (⟨#[]⟩ : ByteArray), .slice none 0 0, .slice none 0 0]) ?_ 0 _ rfl; (with_reducible repeat (first | refine blk_drewN ?_ _ | refine blk_drew ?_ | refine blk_alloc ?_ _)); exact BK616.out⟩, ⟨bl2 HB GE615 GE616⟩⟩
   case round =>
    clear H'
    try clear c1
    try clear c2
    try clear p2
    try clear c5
    try clear c7
    try clear c13
    try clear c14
    try clear c15
    try clear c16
    try clear hcz14_0
    try clear hcz14_1
    try clear hcz17_0
    try clear hcz17_1
    try clear hcz17_2
    try clear hcz17_3
    try clear hfz14_0
    try clear hfz14_1
    try clear hfz17_0
    try clear hfz17_1
    try clear hfz17_2
    try clear hfz17_3
    obtain ⟨x10_1, x617002_1, u617002, rfl, HA, HK1, HO_7, HO_617002, BK615, BK616, HB⟩ := hrel
    cases gk with
    | zero => exact absurd HA.out (by simp [chancellaw9_AboveCircles.l0])
    | succ k1 =>
     have H := HA.out
     clear HA
     simp only [chancellaw9_AboveCircles.l0] at H
     by_cases c18 : x10_1 < (l2.length : Int)
     ·
      rw [if_pos c18] at H
      have c18b0 : decide (x10_1 < (l2.length : Int)) = true := decide_eq_true c18
      clear c18
      (first | rw [c18b0] | (simp only [i64_w, i32_w]; rw [c18b0]) | skip)
      by_cases c19 : x10_1 < 4
      ·
       rw [if_pos c19] at H
       have c19b0 : decide (x10_1 < 4) = true := decide_eq_true c19
       clear c19
       by_cases c20 : 0 ≤ x10_1
       ·
        rw [if_pos c20] at H
        have c20b0 : decide (0 ≤ x10_1) = true := decide_eq_true c20
        clear c20
        replace H := Option.bind_eq_some_iff.mp H
        obtain ⟨⟨t618, t619⟩, A210, H⟩ := H
        replace H : (if x617002_1.length < 4398046511104 then (chancellaw9_AboveCircles.l0 k1 l2 t610 (wrap64 (x10_1 + 1)) t613 t614 t613 t614 (x617002_1 ++ [(⟨t618, t619⟩ : S28)])) else (none)) = some r := H
        have A21 := aZ_ A210
        clear A210
        by_cases c22 : x617002_1.length < 4398046511104
        ·
         rw [if_pos c22] at H
         have LMc22 := aZ_ c22
         clear c22
         obtain ⟨y620, hy620⟩ : ∃ y_ : List (S28), y_ = (x617002_1 ++ [(⟨t618, t619⟩ : S28)]) := ⟨_, rfl⟩
         replace H : (chancellaw9_AboveCircles.l0 k1 l2 t610 (wrap64 (x10_1 + 1)) t613 t614 t613 t614 y620) = some r := by first | (rw [hy620]; with_reducible exact H) | (have H2_ := (Option.bind_some _ _).symm.trans H; rw [hy620]; with_reducible exact H2_) | (have H2_ := (Option.bind_some _ _).symm.trans H; with_reducible exact H2_) | with_reducible exact H | (rw [hy620]; exact H) | exact H
         have Ny620 := aZ_ hy620
         clear hy620
         have H' := aZ_ H
         clear H
         try go_wp2
         replace HO_7 := aZ_ (Kd.N_drew HO_7.out)
         replace HO_617002 := aZ_ (Kd.R_drew HO_617002.out)
         replace BK615 := aZ_ (blk_drew BK615.out)
         replace BK616 := aZ_ (blk_drew BK616.out)
         replace HB := aZ_ (below_drew1 HB.out)
         have p617 : 0 ≤ (x10_1 : Int) := of_decide_eq_true asm_
         have q617 : x10_1 < (l2.length : Int) := of_decide_eq_true asm_
         obtain ⟨ad617, e617, hx617_0⟩ := Kd.at_int HR2.out x10_1 p617 q617
         have hw617_0 := hx617_0
         cases e617
         replace hx617_0 := (hbc HB.out hx617_0 :)
         replace p617 := eq_true p617
         replace q617 := eq_true q617
         refine start_ (n := 12) (S := fun w' => w'.cell? ⟨gb616, 0, none⟩ = some (.string t613) ∧ w'.cell? ⟨gb616, 1, none⟩ = some (.string t614) ∧ w'.cell? ⟨gb616, 2, none⟩ = some (u617002) ∧ w'.cell? ⟨gb616, 3, none⟩ = some (.slice none 0 0) ∧ w'.cell? (ad617.add (x10_1).toNat) = some (.int .i64 (rd l2 x10_1))) (ds := [11]) #[false, false, false, false, false, false, false, false, false, false, false, false] (by kernel_rfl) rfl rfl ⟨(blk_cell BK616.out 0).trans rfl, (blk_cell BK616.out 1).trans rfl, (blk_cell BK616.out 2).trans rfl, (blk_cell BK616.out 3).trans rfl, ((hbc HB.out hw617_0 :))⟩ (fun hHeld => ?_); refine with_tabW chancellaw9_AboveCircles.tab9 chancellaw9_AboveCircles.bits9 (fun HT_ HW_ => ?_)
         generalize wr.drew = w23 at HO_7 HO_617002 BK615 BK616 HB hx617_0 hHeld ⊢
         refine pS_ 0 34 (fa 12 1) HT_ ?_
         refine pS_ 2 36 (fa 12 5) HT_ ?_
         refine pS_ 3 37 (fa 12 13) HT_ ?_
         refine pS_ 4 38 (fa 12 29) HT_ ?_
         refine pS_ 5 39 (fa 12 61) HT_ ?_
         refine tS_ 1 35 (fa 12 63) HT_ HW_ hHeld ?_
         refine tS_ 6 40 (fa 12 127) HT_ HW_ hHeld ?_
         refine one_ (i := 7) (N := some 41) #[true, true, true, true, true, true, true, true, false, false, false, false] rfl rfl (one_of HT_.out (by kernel_rfl)) (by decide) (fun K hK => ?_)
         refine goes_ Try.func15 (by kernel_rfl) rfl #[.slice AoG t610.length coG, .int .i64 (rd l2 x10_1)] (by rfl) rfl rfl gm_ ?_
         with_reducible refine (chancellaw9_pick.calls k1 _ _ t610 (rd l2 x10_1) t618 t619 _ ?side1 ?side2 A21.out).mono ?_
         (case side1 => repeat (first | exact (Kd.N_reads' HO_7.out).2.2 | (with_reducible refine Kd.C_alloc ?_ _) | (with_reducible refine Kd.C_drewN ?_ _) | (with_reducible refine Kd.C_drew ?_)))
         (case side2 => exact (Kd.N_reads' HO_7.out).2.1)
         rintro e w24 ⟨rfl, hb⟩
         refine ⟨_, rfl, ?_⟩
         replace HO_7 := aZ_ (Kd.N_below (kN HO_7) hb)
         replace HO_617002 := aZ_ (Kd.R_below (kR HO_617002) hb)
         replace BK615 := aZ_ (blk_below (g := gb615) (o := .cells #[.string t613, .string t614] 28 (0, 0)) (bk BK615) hb)
         replace BK616 := aZ_ (blk_below (g := gb616) (o := .cells #[.string t613, .string t614, u617002, .slice none 0 0] 38 (0, 0)) (bk BK616) hb)
         replace HB := aZ_ (below_step (bl2 HB GE615 GE616) hb)
         (try clear hb)
         (try clear hb2)
         (try clear hk)
         (try clear hi)
         refine hK.out _ _ ⟨(blk_cell BK616.out 0).trans rfl, (blk_cell BK616.out 1).trans rfl, (blk_cell BK616.out 2).trans rfl, (blk_cell BK616.out 3).trans rfl, ((hbc HB.out hw617_0 :))⟩ (fun hHeld => ?_)
         clear hK K
         refine norm_ (a' := ?_) ?_ ?_
         rotate_left
         ·
          show Act.put _ (some 41) _ = _
          simp only [Act.put, List.setIfInBounds_toArray, List.set_cons_zero, List.set_cons_succ, i64_w, i32_w]
          rfl
         refine one_ (i := 8) (N := some 42) #[true, true, true, true, true, true, true, true, true, false, false, false] rfl rfl (one_of HT_.out (by kernel_rfl)) (by decide) (fun K hK => ?_)
         refine value_ (w1 := ?_) (v := ?_) (by rfl) rfl ?_ ?_
         rotate_left 2
         ·
          go_simp
          constructor
          ·
           rfl
          ·
           rfl
         refine hK.out _ _ ⟨(blk_cell (blk_alloc BK616.out _) 0).trans rfl, (blk_cell (blk_alloc BK616.out _) 1).trans rfl, (blk_cell (blk_alloc BK616.out _) 2).trans rfl, (blk_cell (blk_alloc BK616.out _) 3).trans rfl, (World.cell?_alloc_lt _ _ _ (World.block_lt_of_cell? _ _ (((hbc HB.out hw617_0 :))))).trans (((hbc HB.out hw617_0 :)))⟩ (fun hHeld => ?_)
         clear hK K
         refine norm_ (a' := ?_) ?_ ?_
         rotate_left
         ·
          show Act.put _ (some 42) _ = _
          simp only [Act.put, List.setIfInBounds_toArray, List.set_cons_zero, List.set_cons_succ, i64_w, i32_w]
          rfl
         refine one_ (i := 9) (N := some 43) #[true, true, true, true, true, true, true, true, true, true, false, false] rfl rfl (one_of HT_.out (by kernel_rfl)) (by decide) (fun K hK => ?_)
         refine Kd.R_append_step k28 (w0 := w) w.heap.size (by rfl) (.tmp 35) (.tmp 42) 30 28 (.agg #[(.string ⟨#[]⟩), (.string ⟨#[]⟩)]) 32 rfl Try.underlying30 info28 rfl (by decide) (by omega) u617002 x617002_1 (⟨t618, t619⟩ : S28) [.string t618, .string t619] (fun k_ => k_ ≠ gb615) (fun _ => False) rfl rfl ?aP (fun _ hk => hk.elim) ?aF ?aO ?aB ?aS ?aL ?_
         (case aP => exact k28_mkM _ _ _ (⟨t618, t619⟩ : S28))
         (case aB => exact (bl2 HB GE615 GE616))
         (case aF => exact (fun k_ hk => Kd.freshB (g := gb615) (o := .cells #[.string t613, .string t614] 28 (0, 0)) (bk BK615) k_ hk))
         (case aO => exact (kR HO_617002))
         (case aS => exact (below_size (bl2 HB GE615 GE616)))
         (case aL => have := LMc22.out; omega)
         intro v621 w25 ho hb hg hat
         rw [← Ny620.out] at ho
         replace HO_7 := aZ_ (Kd.N_afterv (ok := (fun k_ => k_ ≠ gb615 ∧ k_ ≠ gb616)) (by (with_reducible repeat (first | apply Kd.N_alloc | apply Kd.N_drewN | apply Kd.N_drew)); exact Kd.N_mono HO_7.out (fun _ hk => ⟨⟨hk.2.1, hk.2.2⟩, hk.1⟩)) hg hat)
         replace BK615 := aZ_ (blk_grown (g := gb615) (o := .cells #[.string t613, .string t614] 28 (0, 0)) (bk BK615) hg (Kd.R_away HO_617002.out (fun _ hk => hk)))
         replace BK616 := aZ_ (blk_grown (g := gb616) (o := .cells #[.string t613, .string t614, u617002, .slice none 0 0] 38 (0, 0)) (bk BK616) hg (Kd.R_ne HO_617002.out BK616.out (by decide)))
         replace HB := aZ_ (hb)
         have HO622 := aZ_ (ho)
         clear HO_617002
         clear ho hb hg hat
         obtain ⟨Ao26, co26, eo26⟩ := Kd.R_slice HO622.out
         (first | subst eo26 | (injection eo26 with f1_ f2_ f3_; have f4_ := f1_.symm; have f5_ := f3_.symm; clear f1_ f2_ f3_; subst f4_; subst f5_))
         refine hK.out _ _ ⟨(blk_cell BK616.out 0).trans rfl, (blk_cell BK616.out 1).trans rfl, (blk_cell BK616.out 2).trans rfl, (blk_cell BK616.out 3).trans rfl, ((hbc HB.out hw617_0 :))⟩ (fun hHeld => ?_)
         clear hK K
         refine norm_ (a' := ?_) ?_ ?_
         rotate_left
         ·
          show Act.put _ (some 43) _ = _
          simp only [Act.put, List.setIfInBounds_toArray, List.set_cons_zero, List.set_cons_succ, i64_w, i32_w]
          rfl
         refine pS_ 10 44 (fa 12 2047) HT_ ?_
         refine last_ (i := 11) (N := none) #[true, true, true, true, true, true, true, true, true, true, true, true] rfl rfl (one_of HT_.out (by kernel_rfl)) (by decide) (fun K hK => ?_)
         have hs27 : w25.cell? ⟨gb616, 2, none⟩ = some (u617002) := (blk_cell BK616.out 2).trans rfl
         have hfs27 := blk_frozen BK616.out 2
         have hns27_0 := NB615_616.out
         have hms27_0 := NB616_615.out
         refine skip_ (w1 := ?_) (by rfl) rfl ?_ ?_
         rotate_left
         ·
          go_simp
          rfl
         refine hK.out _ _ ?_
         clear hK K
         refine done_ (done_of HT_.out (by kernel_rfl)) ?_
         try go_wp2
         go_roundg k1
         case measure => have := HK1.out; omega
         case rel => exact ⟨(wrap64 (x10_1 + 1)), (y620), (.slice Ao26 y620.length co26), rf_, H', ⟨by have := HK1.out; omega⟩, ⟨by (with_reducible repeat (first | apply Kd.N_alloc | apply Kd.N_drewN | apply Kd.N_drew)); exact Kd.N_mono (Kd.N_far (p := ⟨gb616, 2, none⟩) (Kd.N_mono HO_7.out (fun k_ hk => (⟨hk, hk.1.2⟩ : _ ∧ k_ ≠ gb616))) (fun _ hk => hk.2) (.slice Ao26 y620.length co26)) (fun _ hk => ⟨hk.1.2, ⟨hk.1.1.1, hk.1.1.2⟩⟩)⟩, ⟨by (with_reducible repeat (first | apply Kd.R_alloc | apply Kd.R_drewN | apply Kd.R_drew)); exact Kd.R_mono (Kd.R_far (p := ⟨gb616, 2, none⟩) (Kd.R_types HO622.out BK616.out (by decide)) (fun _ hk => hk.2) (.slice Ao26 y620.length co26)) (fun _ hk => hk.1)⟩, ⟨by (with_reducible repeat (first | refine blk_drewN ?_ _ | refine blk_drew ?_ | refine blk_alloc ?_ _)); refine blk_far ?_ NB615_616.out _; (with_reducible repeat (first | refine blk_drewN ?_ _ | refine blk_drew ?_ | refine blk_alloc ?_ _)); exact BK615.out⟩, ⟨by (with_reducible repeat (first | refine blk_drewN ?_ _ | refine blk_drew ?_ | refine blk_alloc ?_ _)); refine blk_put (cs := #[.string t613, .string t614, u617002, .slice none 0 0]) ?_ 2 _ rfl; (with_reducible repeat (first | refine blk_drewN ?_ _ | refine blk_drew ?_ | refine blk_alloc ?_ _)); exact BK616.out⟩, ⟨bl2 HB GE615 GE616⟩⟩
        ·
         rw [if_neg c22] at H
         exact absurd H (by simp)
       ·
        rw [if_neg c20] at H
        exact absurd H (by simp)
      ·
       rw [if_neg c19] at H
       have c19b0 : decide (x10_1 < 4) = false := decide_eq_false c19
       clear c19
       have H' := aZ_ H
       clear H
       go_wp2
       go_meet
       case rel => exact ⟨_, (x617002_1), (u617002), H', ⟨by have := HK1.out; first | omega | exact Nat.le_refl _⟩, ⟨kN HO_7⟩, ⟨kR HO_617002⟩, ⟨bk BK615⟩, ⟨bk BK616⟩, ⟨bl2 HB GE615 GE616⟩⟩
     ·
      rw [if_neg c18] at H
      have c18b0 : decide (x10_1 < (l2.length : Int)) = false := decide_eq_false c18
      clear c18
      (first | rw [c18b0] | (simp only [i64_w, i32_w]; rw [c18b0]) | skip)
      have H' := aZ_ H
      clear H
      go_wp2
      go_meet
      case rel => exact ⟨_, (x617002_1), (u617002), H', ⟨by have := HK1.out; first | omega | exact Nat.le_refl _⟩, ⟨kN HO_7⟩, ⟨kR HO_617002⟩, ⟨bk BK615⟩, ⟨bk BK616⟩, ⟨bl2 HB GE615 GE616⟩⟩
  case rest =>
   clear HC8
   try clear c1
   try clear c2
   try clear p2
   try clear c5
   try clear p6
   try clear q6
   try clear hx6
   try clear c7
   try clear c13
   try clear c14
   try clear c15
   try clear c16
   try clear c18
   try clear c18b0
   try clear c19
   try clear c19b0
   try clear c20
   try clear c20b0
   try clear c22
   try clear hcz14_0
   try clear hcz14_1
   try clear hcz17_0
   try clear hcz17_1
   try clear hcz17_2
   try clear hcz17_3
   try clear hfz14_0
   try clear hfz14_1
   try clear hfz17_0
   try clear hfz17_1
   try clear hfz17_2
   try clear hfz17_3
   try clear hx617_0
   try clear p2
   try clear p617
   try clear q617
   obtain ⟨kq, x617002_7, u617002, HA, HJ7, HO_7, HO_617002, BK615, BK616, HB⟩ := hcut
   cases kq with
   | zero => exact absurd HA.out (by simp [chancellaw9_AboveCircles.j1])
   | succ kj7 =>
    have H := HA.out
    clear HA
    simp only [chancellaw9_AboveCircles.j1] at H
    replace H := Option.bind_eq_some_iff.mp H
    obtain ⟨t623, A280, H⟩ := H
    replace H : ((above_Above.f t623 t613 t614).bind fun t626 => (chancellaw9_AboveCircles.l1 kj7 t610 false t626 0 t613 t614 t613 t614 x617002_7)) = some r := H
    have A28 := aZ_ A280
    clear A280
    replace H := Option.bind_eq_some_iff.mp H
    obtain ⟨t626, A290, H⟩ := H
    replace H : (chancellaw9_AboveCircles.l1 kj7 t610 false t626 0 t613 t614 t613 t614 x617002_7) = some r := H
    have A29 := aZ_ A290
    clear A290
    have H' := aZ_ H
    clear H
    have hnb30 := NB616_615.out
    have hnc30 := NB615_616.out
    obtain ⟨hcz31_0, hcz31_1, hcz31_2, hcz31_3, hfz31_0, hfz31_1, hfz31_2, hfz31_3⟩ := bc4 BK616
    obtain ⟨Ao32, co32, eo32⟩ := Kd.R_slice HO_617002.out
    subst eo32
    go_wp2_with (first | ((with_reducible refine gate_callee (f := 26) rfl ?_); refine goesL_ (some 47) rfl rfl Try.func26 (by kernel_rfl) rfl #[.slice AoG t610.length coG, .agg #[.string t613, .string t614, .slice Ao32 x617002_7.length co32, .slice none 0 0]] rfl gm_ ?_; (refine (chancelref8_Put.calls kj7 (fun k_ => (some k_ ≠ (.slice Ao32 x617002_7.length co32 : Value).ownBlock ∧ (k_ ≠ gb615 ∧ k_ ≠ gb616))) _ _ t610 t613 t614 (fun k_ => some k_ = (.slice Ao32 x617002_7.length co32 : Value).ownBlock) _ _ x617002_7 (fun k_ => False) _ _ ([] : List (S58)) t623 _ ?side1 ?side2 ?side3 A28.out).mono ?_); (case side1 => exact Kd.N_V (HO_7.out)); (case side2 => exact Kd.R_V (Kd.R_tight rfl (Kd.R_types (Kd.R_apart' (HO_617002.out) (Kd.N_typed HO_7.out) (by decide)) BK616.out (by decide)))); (case side3 => exact Kd.V_nil _ _ _ _ _); rintro e w33 ⟨v624, rfl, ho0, hb⟩; refine ⟨_, rfl, ?_⟩; have HO625 := aZ_ (Kd.N_lower (Kd.N_mono (ok' := fun k_ => k_ ≠ gb615 ∧ k_ ≠ gb616) ho0 (fun k_ hk_ => ⟨Or.elim hk_ (fun hs_ => Or.elim hs_ (fun hs_ => hs_.2.1) (fun hs_ => Or.elim hs_ (fun hs_ => ((Kd.R_types (Kd.R_apart' (HO_617002.out) (Kd.N_typed HO_7.out) (by decide)) BK616.out (by decide)).1 k_ hs_.symm).1.1) (fun hs_ => (hs_).elim))) (fun hn_ => (Kd.freshB (g := gb615) (o := .cells #[.string t613, .string t614] 28 (0, 0)) (bk BK615) k_ hn_)), Or.elim hk_ (fun hs_ => Or.elim hs_ (fun hs_ => hs_.2.2) (fun hs_ => Or.elim hs_ (fun hs_ => ((Kd.R_types (Kd.R_apart' (HO_617002.out) (Kd.N_typed HO_7.out) (by decide)) BK616.out (by decide)).1 k_ hs_.symm).2) (fun hs_ => (hs_).elim))) (fun hn_ => (Kd.freshB (g := gb616) (o := .cells #[.string t613, .string t614, .slice Ao32 x617002_7.length co32, .slice none 0 0] 38 (0, 0)) (bk BK616) k_ hn_))⟩)) (below_size (bl2 HB GE615 GE616))); replace HO_7 := aZ_ (Kd.N_elder' (kN HO_7) (by first | exact Kd.N_base ho0 | exact Kd.R_base ho0) hb); replace HO_617002 := aZ_ (Kd.R_below (kR HO_617002) hb); replace BK615 := aZ_ (blk_below (g := gb615) (o := .cells #[.string t613, .string t614] 28 (0, 0)) (bk BK615) hb); replace BK616 := aZ_ (blk_below (g := gb616) (o := .cells #[.string t613, .string t614, .slice Ao32 x617002_7.length co32, .slice none 0 0] 38 (0, 0)) (bk BK616) hb); replace HB := aZ_ (below_step (bl2 HB GE615 GE616) hb); (try clear hb); (try clear hb2); (try clear hk); (try clear hi); (try clear ho0); obtain ⟨hcz34_0, hcz34_1, hfz34_0, hfz34_1⟩ := bc2 BK615; obtain ⟨Ao35, co35, eo35⟩ := Kd.N_slice HO625.out; subst eo35) | ((with_reducible refine gate_callee (f := 19) rfl ?_); refine goesL_ (some 50) rfl rfl Try.func19 (by kernel_rfl) rfl #[.slice Ao35 t623.length co35, .agg #[.string t613, .string t614]] rfl gm_ ?_; (with_reducible refine (above_Above.calls _ _ t623 t613 t614 t626 _ ?side1 ?side2 A29.out).mono ?_); (case side1 => repeat (first | exact (Kd.N_reads' HO625.out).2.2 | (with_reducible refine Kd.C_alloc ?_ _) | (with_reducible refine Kd.C_drewN ?_ _) | (with_reducible refine Kd.C_drew ?_))); (case side2 => exact (Kd.N_reads' HO625.out).2.1); rintro e w36 ⟨v627, rfl, ho0, hb⟩; refine ⟨_, rfl, ?_⟩; have HO628 := aZ_ (Kd.V_lower (Kd.V_mono (ok' := fun k_ => some k_ ≠ (.slice AoG t610.length coG : Value).ownBlock ∧ some k_ ≠ (.slice Ao32 x617002_7.length co32 : Value).ownBlock ∧ some k_ ≠ (.slice Ao35 t623.length co35 : Value).ownBlock ∧ k_ ≠ gb615 ∧ k_ ≠ gb616) ho0 (fun k_ hk_ => ⟨(Kd.fresh' (Kd.N_lt (kN HO_7)) k_ hk_), (Kd.fresh' (Kd.R_lt (kR HO_617002)) k_ hk_), (Kd.fresh' (Kd.N_lt (kN HO625)) k_ hk_), (Kd.freshB (g := gb615) (o := .cells #[.string t613, .string t614] 28 (0, 0)) (bk BK615) k_ hk_), (Kd.freshB (g := gb616) (o := .cells #[.string t613, .string t614, .slice Ao32 x617002_7.length co32, .slice none 0 0] 38 (0, 0)) (bk BK616) k_ hk_)⟩)) (below_size (bl2 HB GE615 GE616))); replace HO_7 := aZ_ (Kd.N_below (kN HO_7) hb); replace HO_617002 := aZ_ (Kd.R_below (kR HO_617002) hb); replace HO625 := aZ_ (Kd.N_below (kN HO625) hb); replace BK615 := aZ_ (blk_below (g := gb615) (o := .cells #[.string t613, .string t614] 28 (0, 0)) (bk BK615) hb); replace BK616 := aZ_ (blk_below (g := gb616) (o := .cells #[.string t613, .string t614, .slice Ao32 x617002_7.length co32, .slice none 0 0] 38 (0, 0)) (bk BK616) hb); replace HB := aZ_ (below_step (bl2 HB GE615 GE616) hb); (try clear hb); (try clear hb2); (try clear hk); (try clear hi); (try clear ho0)))
    go_loopg [12, 14] kj7 (fun kq v12 v14 w' => ∃ (x12_2 : Bool) (x14_2 : Int), v12 = .bool x12_2 ∧ v14 = .int .i64 x14_2 ∧ Aside0 (chancellaw9_AboveCircles.l1 kq t610 x12_2 t626 x14_2 t613 t614 t613 t614 x617002_7 = some r) ∧ Aside0 (kq ≤ kj7) ∧ Aside0 (Kd.N k38 38 w' w.heap.size (fun k_ => some k_ ≠ ((.slice Ao32 x617002_7.length co32) : Value).ownBlock ∧ k_ ≠ gb615 ∧ k_ ≠ gb616) (.slice AoG t610.length coG) t610) ∧ Aside0 (Kd.V k28 28 w' w.heap.size (fun k_ => some k_ ≠ ((.slice AoG t610.length coG) : Value).ownBlock ∧ some k_ ≠ ((.slice Ao32 x617002_7.length co32) : Value).ownBlock ∧ k_ ≠ gb615 ∧ k_ ≠ gb616) v627 t626) ∧ Aside0 (Kd.R k28 28 w' w.heap.size (fun k_ => k_ ≠ gb615) (.slice Ao32 x617002_7.length co32) x617002_7) ∧ Aside0 (w'.heap[gb615]? = some (.cells #[.string t613, .string t614] 28 (0, 0))) ∧ Aside0 (w'.heap[gb616]? = some (.cells #[.string t613, .string t614, (.slice Ao32 x617002_7.length co32), (.slice none 0 0)] 38 (0, 0))) ∧ Aside0 (Below w.heap.size w w'))
    case atStart => exact ⟨(false), (0), rf_, rf_, H', ⟨Nat.le_refl _⟩, ⟨by (with_reducible repeat (first | apply Kd.N_alloc | apply Kd.N_drewN | apply Kd.N_drew)); exact Kd.N_mono HO_7.out (fun _ hk => by first | exact ⟨hk.1.1, ⟨hk.1.2.1, hk.1.2.2⟩⟩ | (simp only [own_nf] at hk ⊢; exact ⟨hk.1.1, ⟨hk.1.2.1, hk.1.2.2⟩⟩))⟩, ⟨by (with_reducible repeat (first | apply Kd.V_alloc | apply Kd.V_drewN | apply Kd.V_drew)); exact Kd.V_mono HO628.out (fun _ hk => ⟨hk.1, ⟨hk.2.1, ⟨hk.2.2.2.1, hk.2.2.2.2⟩⟩⟩)⟩, ⟨kR HO_617002⟩, ⟨bk BK615⟩, ⟨bk BK616⟩, ⟨bl2 HB GE615 GE616⟩⟩
    case round =>
     clear H'
     try clear c1
     try clear c2
     try clear p2
     try clear c3
     try clear c5
     try clear p6
     try clear q6
     try clear hx6
     try clear c7
     try clear c13
     try clear c14
     try clear c15
     try clear c16
     try clear c18
     try clear c18b0
     try clear c19
     try clear c19b0
     try clear c20
     try clear c20b0
     try clear c22
     try clear c26
     try clear c30
     try clear hcz14_0
     try clear hcz14_1
     try clear hcz17_0
     try clear hcz17_1
     try clear hcz17_2
     try clear hcz17_3
     try clear hcz31_0
     try clear hcz31_1
     try clear hcz31_2
     try clear hcz31_3
     try clear hcz34_0
     try clear hcz34_1
     try clear hfz14_0
     try clear hfz14_1
     try clear hfz17_0
     try clear hfz17_1
     try clear hfz17_2
     try clear hfz17_3
     try clear hfz31_0
     try clear hfz31_1
     try clear hfz31_2
     try clear hfz31_3
     try clear hfz34_0
     try clear hfz34_1
     try clear hx617_0
     try clear p2
     try clear p6
     try clear p617
     try clear q6
     try clear q617
     obtain ⟨x12_2, x14_2, rfl, rfl, HA, HK2, HO_7, HO_13, HO_617002, BK615, BK616, HB⟩ := hrel
     cases gk with
     | zero => exact absurd HA.out (by simp [chancellaw9_AboveCircles.l1])
     | succ k2 =>
      have H := HA.out
      clear HA
      simp only [chancellaw9_AboveCircles.l1] at H
      by_cases c37 : x14_2 < (t626.length : Int)
      ·
       rw [if_pos c37] at H
       have c37b0 : decide (x14_2 < (t626.length : Int)) = true := decide_eq_true c37
       clear c37
       by_cases c38 : x12_2 = true
       ·
        subst c38
        have H1 : (chancellaw9_AboveCircles.l1 k2 t610 true t626 (wrap64 (x14_2 + 1)) t613 t614 t613 t614 x617002_7) = some r := by rw [if_pos rfl] at H; exact H
        clear H
        have H := H1
        clear H1
        have H' := aZ_ H
        clear H
        obtain ⟨Ao39, co39, eo39⟩ := Kd.V_slice HO_13.out
        subst eo39
        try go_wp2
        replace HO_7 := aZ_ (Kd.N_drew HO_7.out)
        replace HO_13 := aZ_ (Kd.V_drew HO_13.out)
        replace HO_617002 := aZ_ (Kd.R_drew HO_617002.out)
        replace BK615 := aZ_ (blk_drew BK615.out)
        replace BK616 := aZ_ (blk_drew BK616.out)
        replace HB := aZ_ (below_drew1 HB.out)
        refine start_ (n := 10) (S := fun w' => True) (ds := []) #[false, false, false, false, false, false, false, false, false, false] (by kernel_rfl) rfl rfl trivial (fun hHeld => ?_); refine with_tabW chancellaw9_AboveCircles.tab16 chancellaw9_AboveCircles.bits16 (fun HT_ HW_ => ?_)
        generalize wr.drew = w40 at HO_7 HO_13 HO_617002 BK615 BK616 HB hHeld ⊢
        refine pS_ 0 57 (fa 10 1) HT_ ?_
        refine pS_ 1 58 (fa 10 3) HT_ ?_
        refine pU_ 2 59 (fa 10 7) HT_ ?_
        refine pU_ 3 60 (fa 10 15) HT_ ?_
        refine pU_ 4 61 (fa 10 31) HT_ ?_
        refine pU_ 5 62 (fa 10 63) HT_ ?_
        refine pU_ 6 63 (fa 10 127) HT_ ?_
        refine pU_ 7 64 (fa 10 255) HT_ ?_
        refine pS_ 8 65 (fa 10 511) HT_ ?_
        refine pS_ 9 12 (fa 10 1023) HT_ ?_
        refine done_ (done_of HT_.out (by kernel_rfl)) ?_
        try go_wp2
        go_roundg k2
        case measure => have := HJ7.out; have := HK2.out; omega
        case rel => exact ⟨(true), (wrap64 (x14_2 + 1)), rf_, rf_, H', ⟨by have := HJ7.out; have := HK2.out; omega⟩, ⟨kN HO_7⟩, ⟨kV HO_13⟩, ⟨kR HO_617002⟩, ⟨bk BK615⟩, ⟨bk BK616⟩, ⟨bl2 HB GE615 GE616⟩⟩
       ·
        replace c38 := Bool.eq_false_iff.mpr c38
        subst c38
        have H1 : (if 0 ≤ x14_2 then (chancellaw9_AboveCircles.l1 k2 t610 ((((rd_T28 t626 x14_2).f0).toList) == t613.toList && ((((rd_T28 t626 x14_2).f1).toList) == t614.toList)) t626 (wrap64 (x14_2 + 1)) t613 t614 t613 t614 x617002_7) else (none)) = some r := by rw [if_neg (show ¬ (false = true) by decide)] at H; exact H
        clear H
        have H := H1
        clear H1
        by_cases c41 : 0 ≤ x14_2
        ·
         rw [if_pos c41] at H
         have c41b0 : decide (0 ≤ x14_2) = true := decide_eq_true c41
         clear c41
         have H' := aZ_ H
         clear H
         obtain ⟨Ao42, co42, eo42⟩ := Kd.V_slice HO_13.out
         subst eo42
         try go_wp2
         replace HO_7 := aZ_ (Kd.N_drew HO_7.out)
         replace HO_13 := aZ_ (Kd.V_drew HO_13.out)
         replace HO_617002 := aZ_ (Kd.R_drew HO_617002.out)
         replace BK615 := aZ_ (blk_drew BK615.out)
         replace BK616 := aZ_ (blk_drew BK616.out)
         replace HB := aZ_ (below_drew1 HB.out)
         have p629 : 0 ≤ (x14_2 : Int) := of_decide_eq_true asm_
         have q629 : x14_2 < (t626.length : Int) := of_decide_eq_true asm_
         obtain ⟨ad629, e629, hx629_0, hx629_1⟩ := at_T28 (Kd.V_reads' HO_13.out).2.2 x14_2 p629 q629
         cases e629
         replace p629 := eq_true p629
         replace q629 := eq_true q629
         refine start_ (n := 10) (S := fun w' => w'.cell? ⟨gb615, 0, none⟩ = some (.string t613) ∧ w'.cell? ⟨gb615, 1, none⟩ = some (.string t614) ∧ w'.cell? (ad629.add ((x14_2).toNat * 2)) = some (.string ((rd_T28 t626 x14_2).f0)) ∧ w'.cell? ⟨(ad629.add ((x14_2).toNat * 2)).block, (ad629.add ((x14_2).toNat * 2)).off + 1, none⟩ = some (.string ((rd_T28 t626 x14_2).f1))) (ds := []) #[false, false, false, false, false, false, false, false, false, false] (by kernel_rfl) rfl rfl ⟨(blk_cell BK615.out 0).trans rfl, (blk_cell BK615.out 1).trans rfl, hx629_0, hx629_1⟩ (fun hHeld => ?_); refine with_tabW chancellaw9_AboveCircles.tab16 chancellaw9_AboveCircles.bits16 (fun HT_ HW_ => ?_)
         generalize wr.drew = w43 at HO_7 HO_13 HO_617002 BK615 BK616 HB hx629_0 hx629_1 hHeld ⊢
         refine pS_ 0 57 (fa 10 1) HT_ ?_
         refine pS_ 1 58 (fa 10 3) HT_ ?_
         refine pS_ 2 59 (fa 10 7) HT_ ?_
         refine pS_ 3 60 (fa 10 15) HT_ ?_
         refine pS_ 4 61 (fa 10 31) HT_ ?_
         refine tS_ 5 62 (fa 10 63) HT_ HW_ hHeld ?_
         refine tS_ 6 63 (fa 10 127) HT_ HW_ hHeld ?_
         refine pS_ 7 64 (fa 10 255) HT_ ?_
         refine pS_ 8 65 (fa 10 511) HT_ ?_
         refine pS_ 9 12 (fa 10 1023) HT_ ?_
         refine done_ (done_of HT_.out (by kernel_rfl)) ?_
         try go_wp2
         go_roundg k2
         case measure => have := HJ7.out; have := HK2.out; omega
         case rel => exact ⟨(((((rd_T28 t626 x14_2).f0).toList) == t613.toList && ((((rd_T28 t626 x14_2).f1).toList) == t614.toList))), (wrap64 (x14_2 + 1)), rf_, rf_, H', ⟨by have := HJ7.out; have := HK2.out; omega⟩, ⟨kN HO_7⟩, ⟨kV HO_13⟩, ⟨kR HO_617002⟩, ⟨bk BK615⟩, ⟨bk BK616⟩, ⟨bl2 HB GE615 GE616⟩⟩
        ·
         rw [if_neg c41] at H
         exact absurd H (by simp)
      ·
       rw [if_neg c37] at H
       have c37b0 : decide (x14_2 < (t626.length : Int)) = false := decide_eq_false c37
       clear c37
       replace H := Option.bind_eq_some_iff.mp H
       obtain ⟨t630, A440, H⟩ := H
       replace H : (some (t630 == x12_2)) = some r := H
       have A44 := aZ_ A440
       clear A440
       obtain rfl := Option.some.inj H
       obtain ⟨Ao45, co45, eo45⟩ := Kd.V_slice HO_13.out
       subst eo45
       have hnb46 := NB615_616.out
       have hnc46 := NB616_615.out
       obtain ⟨hcz47_0, hcz47_1, hfz47_0, hfz47_1⟩ := bc2 BK615
       obtain ⟨hcz48_0, hcz48_1, hcz48_2, hcz48_3, hfz48_0, hfz48_1, hfz48_2, hfz48_3⟩ := bc4 BK616
       go_wp2_with (first | ((with_reducible refine gate_callee (f := 23) rfl ?_); refine goesL_ (some 70) rfl rfl Try.func23 (by kernel_rfl) rfl #[.slice AoG t610.length coG, .agg #[.string t613, .string t614], .slice Ao32 x617002_7.length co32] rfl gm_ ?_; (with_reducible refine (above_Circle.calls _ _ t610 t613 t614 _ _ x617002_7 t630 _ ?side1 ?side2 ?side3 ?side4 A44.out).mono ?_); (case side1 => repeat (first | exact (Kd.N_reads' HO_7.out).2.2 | (with_reducible refine Kd.C_alloc ?_ _) | (with_reducible refine Kd.C_drewN ?_ _) | (with_reducible refine Kd.C_drew ?_))); (case side2 => exact (Kd.N_reads' HO_7.out).2.1); (case side3 => repeat (first | exact (Kd.R_reads' HO_617002.out).2.2 | (with_reducible refine Kd.C_alloc ?_ _) | (with_reducible refine Kd.C_drewN ?_ _) | (with_reducible refine Kd.C_drew ?_))); (case side4 => exact (Kd.R_reads' HO_617002.out).2.1); rintro e w49 ⟨rfl, hb⟩; refine ⟨_, rfl, ?_⟩; replace HO_7 := aZ_ (Kd.N_below (kN HO_7) hb); replace HO_13 := aZ_ (Kd.V_below (kV HO_13) hb); replace HO_617002 := aZ_ (Kd.R_below (kR HO_617002) hb); replace BK615 := aZ_ (blk_below (g := gb615) (o := .cells #[.string t613, .string t614] 28 (0, 0)) (bk BK615) hb); replace BK616 := aZ_ (blk_below (g := gb616) (o := .cells #[.string t613, .string t614, .slice Ao32 x617002_7.length co32, .slice none 0 0] 38 (0, 0)) (bk BK616) hb); replace HB := aZ_ (below_step (bl2 HB GE615 GE616) hb); (try clear hb); (try clear hb2); (try clear hk); (try clear hi)))
       go_ret
       exact ⟨by first | rfl | (simp [errW_none, errW_some] <;> rfl) | (simp [*, errW_none, errW_some] <;> rfl), bl2 HB GE615 GE616⟩
 ·
  exact absurd trivial c5
-- NOT PRINTED: function 8 (chancellaw9_AboveChain)

end Go.Proofs.Ytelibndkkokadaa.GB
