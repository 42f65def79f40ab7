-- Written by wip/tools/gprint.py over the kit's printer.
import Derived.Test.YtelibndkkokadaaGB0
import Derived.Test.YtelibndkkokadaaJk
import Derived.Test.YtelibndkkokadaaJc
import Derived.Test.YtelibndkkokadaaJe
import Derived.Test.YtelibndkkokadaaJh
import Derived.Test.YtelibndkkokadaaGB15
import Derived.Test.YtelibndkkokadaaJi
import Derived.Test.YtelibndkkokadaaGB17
import Derived.Test.YtelibndkkokadaaSqz
namespace Go.Proofs.Ytelibndkkokadaa.GB
open Go.RowKit Go.Proofs.YtelibndkkokadaaW.PrintWords Go.Proofs.YtelibndkkokadaaW.PrintLast Go.Proofs.Ytelibndkkokadaa.HandV Go.Proofs.YtelibndkkokadaaW.PrintMore
attribute [local go_sem] max2_int min2_int max_two min_two max_three min_three max_four min_four   -- for this text's walks alone
set_option linter.unusedVariables false
set_option linter.unusedSimpArgs false

/-! ### chancellaw9_AboveAsks: function 3 -/
mutual
def chancellaw9_AboveAsks.j1 : Nat → List (S38) → List (S28) → ByteArray → ByteArray → ByteArray → ByteArray → Option (Bool)
 | 0, _, _, _, _, _, _ => none
 | k + 1, x9, x12, x509000, x509001, x510000, x510001 => (above_In.f x9 x509000 x509001 x510000 x510001).bind fun t516 => ((chancelref9_In.f k x9 x509000 x509001 x510000 x510001).bind fun t517 => (if (t516 == t517) = true then ((above_Above.f x9 x509000 x509001).bind fun t518 => ((chancelref9_Above.f x9 x509000 x509001).bind fun t521 => ((chancellaw9_same.f k t518 t521).bind fun t524 => (if t524 = true then ((above_Below.f k x9 x509000 x509001).bind fun t525 => ((chancelref9_Below.f k x9 x509000 x509001).bind fun t528 => ((chancellaw9_same.f k t525 t528).bind fun t531 => (if t531 = true then ((above_Circle.f x9 x509000 x509001 x12).bind fun t532 => ((chancelref9_Circle.f k x9 x509000 x509001 x12).bind fun t533 => (some (t532 == t533)))) else (some false))))) else (some false))))) else (some false)))
def chancellaw9_AboveAsks.l0 : Nat → List Int → List (S38) → List (S28) → Int → ByteArray → ByteArray → ByteArray → ByteArray → Option (Bool)
 | 0, _, _, _, _, _, _, _, _ => none
 | k + 1, x3, x9, x12, x13, x509000, x509001, x510000, x510001 => if x13 < (x3.length : Int) then (if x13 < 4 then (if 0 ≤ x13 then ((chancellaw9_pick.f k x9 (rd x3 x13)).bind fun bt511 => (if x12.length < 4398046511104 then (chancellaw9_AboveAsks.l0 k x3 x9 (x12 ++ [(⟨bt511.1, bt511.2⟩ : S28)]) (wrap64 (x13 + 1)) x509000 x509001 x510000 x510001) else (none))) else (none)) else (chancellaw9_AboveAsks.j1 k x9 x12 x509000 x509001 x510000 x510001)) else (chancellaw9_AboveAsks.j1 k x9 x12 x509000 x509001 x510000 x510001)
end
def chancellaw9_AboveAsks.g (k : Nat) (t501 : List (S38)) (a1 : Int) (a2 : Int) (l3 : List Int) : Option (Bool) := ((chancellaw9_pick.f k t501 a1).bind fun bt504 => ((chancellaw9_pick.f k t501 a2).bind fun bt506 => (chancellaw9_AboveAsks.l0 k l3 t501 ([] : List (S28)) 0 bt504.1 bt504.2 bt506.1 bt506.2)))
theorem chancellaw9_AboveAsks.mono_l : ∀ k, (∀ y0 y1 y2 y3 y4 y5, LeO (chancellaw9_AboveAsks.j1 k y0 y1 y2 y3 y4 y5) (chancellaw9_AboveAsks.j1 (k + 1) y0 y1 y2 y3 y4 y5)) ∧ (∀ y0 y1 y2 y3 y4 y5 y6 y7, LeO (chancellaw9_AboveAsks.l0 k y0 y1 y2 y3 y4 y5 y6 y7) (chancellaw9_AboveAsks.l0 (k + 1) y0 y1 y2 y3 y4 y5 y6 y7))
 | 0 => ⟨fun _ _ _ _ _ _ r h => by simp [chancellaw9_AboveAsks.j1] at h, fun _ _ _ _ _ _ _ _ r h => by simp [chancellaw9_AboveAsks.l0] at h⟩
 | k + 1 => by
  obtain ⟨ih0, ih1⟩ := chancellaw9_AboveAsks.mono_l k
  refine ⟨?_, ?_⟩
  ·
   intro y0 y1 y2 y3 y4 y5
   unfold chancellaw9_AboveAsks.j1
   repeat' first
   | (with_reducible exact ih0 _ _ _ _ _ _)
   | (with_reducible exact ih1 _ _ _ _ _ _ _ _)
   | (with_reducible exact above_Below.mono _ _ _ _)
   | (with_reducible exact chancellaw9_pick.mono _ _ _)
   | (with_reducible exact chancellaw9_same.mono _ _ _)
   | (with_reducible exact chancelref9_Below.mono _ _ _ _)
   | (with_reducible exact chancelref9_Circle.mono _ _ _ _ _)
   | (with_reducible exact chancelref9_In.mono _ _ _ _ _ _)
   | (with_reducible exact LeO.refl _)
   | (with_reducible exact LeO.none _)
   | (with_reducible refine LeO.ite ?_ ?_)
   | (with_reducible refine LeO.bind ?_ (fun _ => ?_))
   | exact ih0 _ _ _ _ _ _
   | exact ih1 _ _ _ _ _ _ _ _
   | exact above_Below.mono _ _ _ _
   | exact chancellaw9_pick.mono _ _ _
   | exact chancellaw9_same.mono _ _ _
   | exact chancelref9_Below.mono _ _ _ _
   | exact chancelref9_Circle.mono _ _ _ _ _
   | exact chancelref9_In.mono _ _ _ _ _ _
   | exact LeO.none _
   | refine LeO.ite ?_ ?_
   | refine LeO.bind ?_ (fun _ => ?_)
  ·
   intro y0 y1 y2 y3 y4 y5 y6 y7
   unfold chancellaw9_AboveAsks.l0
   repeat' first
   | (with_reducible exact ih0 _ _ _ _ _ _)
   | (with_reducible exact ih1 _ _ _ _ _ _ _ _)
   | (with_reducible exact above_Below.mono _ _ _ _)
   | (with_reducible exact chancellaw9_pick.mono _ _ _)
   | (with_reducible exact chancellaw9_same.mono _ _ _)
   | (with_reducible exact chancelref9_Below.mono _ _ _ _)
   | (with_reducible exact chancelref9_Circle.mono _ _ _ _ _)
   | (with_reducible exact chancelref9_In.mono _ _ _ _ _ _)
   | (with_reducible exact LeO.refl _)
   | (with_reducible exact LeO.none _)
   | (with_reducible refine LeO.ite ?_ ?_)
   | (with_reducible refine LeO.bind ?_ (fun _ => ?_))
   | exact ih0 _ _ _ _ _ _
   | exact ih1 _ _ _ _ _ _ _ _
   | exact above_Below.mono _ _ _ _
   | exact chancellaw9_pick.mono _ _ _
   | exact chancellaw9_same.mono _ _ _
   | exact chancelref9_Below.mono _ _ _ _
   | exact chancelref9_Circle.mono _ _ _ _ _
   | exact chancelref9_In.mono _ _ _ _ _ _
   | exact LeO.none _
   | refine LeO.ite ?_ ?_
   | refine LeO.bind ?_ (fun _ => ?_)
def chancellaw9_AboveAsks.T10 : Bool × List (List Nat × List Nat) := (true, [([], []), ([], []), ([], []), ([0, 1, 2], [0, 1, 2]), ([], []), ([], []), ([], []), ([4, 5, 6, 3], [4, 5, 6]), ([3, 7], [3, 7]), ([8, 7], [8]), ([9], [9]), ([9], [9]), ([10, 11, 9, 9], [9, 10, 11]), ([9], [9]), ([9], [9]), ([13, 14, 12, 9], [9, 13, 14]), ([12, 15, 15, 9], [9, 12, 15]), ([9, 16], [9, 16]), ([17, 16], [17]), ([18], [18]), ([18], [18]), ([19, 20, 18, 18], [18, 19, 20]), ([18], [18]), ([18], [18]), ([22, 23, 21, 18], [18, 22, 23]), ([21, 24, 24, 18], [18, 21, 24]), ([18, 25], [18, 25]), ([26, 25], [26]), ([27], [27]), ([27], [27]), ([27], [27]), ([28, 29, 30, 27, 27], [27, 28, 29, 30]), ([27], [27]), ([27], [27]), ([27], [27]), ([32, 33, 34, 31, 27], [27, 32, 33, 34]), ([31, 35, 27], [27, 31, 35]), ([27, 36], [27, 36]), ([37, 35, 0, 1, 2, 3, 4, 5, 6, 7, 8, 9, 10, 11, 12, 13, 14, 15, 16, 17, 18, 19, 20, 21, 22, 23, 24, 25, 26, 27, 28, 29, 30, 31, 32, 33, 34, 35, 36, 37], [37])])
def chancellaw9_AboveAsks.B10 : List Nat := [0, 0, 0, 7, 0, 0, 0, 127, 255, 511, 1023, 1023, 4095, 1023, 1023, 32767, 65535, 131071, 262143, 524287, 524287, 2097151, 524287, 524287, 16777215, 33554431, 67108863, 134217727, 268435455, 268435455, 268435455, 2147483647, 268435455, 268435455, 268435455, 34359738367, 68719476735, 137438953471, 274877906943]
theorem chancellaw9_AboveAsks.tab10 : rtab .any (opsOf Try.f3 10) = chancellaw9_AboveAsks.T10 := by kernel_rfl
theorem chancellaw9_AboveAsks.bits10 : waitsOk chancellaw9_AboveAsks.T10.2 chancellaw9_AboveAsks.B10 = true := by kernel_rfl
set_option maxHeartbeats 8000000 in
set_option maxRecDepth 100000 in
theorem chancellaw9_AboveAsks.calls (A0 : Option Addr) (c0 : Nat) (l0 : List (S49)) (a1 : Int) (a2 : Int) (A3 : Option Addr) (c3 : Nat) (l3 : List Int) (r : Bool) (w : World) (hr0 : Kd.C k49 w A0 l0.length l0) (hc0 : l0.length ≤ c0) (hr3 : Kd.C (Kd.int .i64) w A3 l3.length l3) (hc3 : l3.length ≤ c3) (h : ∀ g, GP.AnyG g → ∃ k, chancellaw9_AboveAsks.g k g a1 a2 l3 = some r) :
  Calls Try.prog 3 #[.slice A0 l0.length c0, .int .i64 a1, .int .i64 a2, .slice A3 l3.length c3] w fun e w' => e = .returned (.bool r) ∧ Below w.heap.size w w' := by
 have hu28 := Try.underlying28
 have HR0 := aZ_ hr0
 have HC0 := aZ_ hc0
 clear hr0 hc0
 have HR3 := aZ_ hr3
 have HC3 := aZ_ hc3
 clear hr3 hc3
 have HB := aZ_ (Below.refl w.heap.size w)
 have A5 := aZ_ (rfl : chancellaw9_known.f = some true)
 have HH := aZ_ h
 clear h
 go_enter Try.func3, Try.ntmps3
 go_upto_region 4 with (first | (go_at_call 13; refine (chancellaw9_known.calls  true _ A5.out).mono ?_; rintro e w11 ⟨rfl, hb⟩; replace HB := aZ_ (below_step (bl HB) hb); (try clear hb); (try clear hb2); (try clear hk); (try clear hi)) | (go_at_call 14; refine (GA.rgood8 l0 _ _ _ ?side1 ?side2).mono ?_; (case side1 => exact kC (Kd.C_below HR0.out HB.out)); (case side2 => exact HC0.out); rintro e wG ⟨vG, t501, rfl, hag_, ho0, hb⟩; have HAG := aZ_ hag_; clear hag_; have HO503 := aZ_ (Kd.N_lower (Kd.N_mono (ok' := fun k_ => True) ho0 (fun k_ hk_ => trivial)) (below_size (bl HB))); replace HB := aZ_ (below_step (bl HB) hb); (try clear hb); (try clear hb2); (try clear hk); (try clear hi); (try clear ho0); obtain ⟨AoG, coG, eoG⟩ := Kd.N_slice HO503.out; subst eoG))
 obtain ⟨k, H⟩ := HH.out t501 HAG.out
 clear HH
 replace H : ((chancellaw9_pick.f k t501 a1).bind fun bt504 => ((chancellaw9_pick.f k t501 a2).bind fun bt506 => (chancellaw9_AboveAsks.l0 k l3 t501 ([] : List (S28)) 0 bt504.1 bt504.2 bt506.1 bt506.2))) = some r := H
 by_cases c6 : True
 ·
  clear c6
  replace H := Option.bind_eq_some_iff.mp H
  obtain ⟨⟨t504, t505⟩, A80, H⟩ := H
  replace H : ((chancellaw9_pick.f k t501 a2).bind fun bt506 => (chancellaw9_AboveAsks.l0 k l3 t501 ([] : List (S28)) 0 t504 t505 bt506.1 bt506.2)) = some r := H
  have A8 := aZ_ A80
  clear A80
  replace H := Option.bind_eq_some_iff.mp H
  obtain ⟨⟨t506, t507⟩, A90, H⟩ := H
  replace H : (chancellaw9_AboveAsks.l0 k l3 t501 ([] : List (S28)) 0 t504 t505 t506 t507) = some r := H
  have A9 := aZ_ A90
  clear A90
  have HC10 := aZ_ H
  clear H
  go_upto_block 0 with (first | ((with_reducible refine gate_callee (f := 15) rfl ?_); refine goesL_ (some 20) rfl rfl Try.func15 (by kernel_rfl) rfl #[.slice AoG t501.length coG, .int .i64 a1] rfl gm_ ?_; (with_reducible refine (chancellaw9_pick.calls k _ _ t501 a1 t504 t505 _ ?side1 ?side2 A8.out).mono ?_); (case side1 => repeat (first | exact (Kd.N_reads' HO503.out).2.2 | (with_reducible refine Kd.C_alloc ?_ _) | (with_reducible refine Kd.C_drewN ?_ _) | (with_reducible refine Kd.C_drew ?_))); (case side2 => exact (Kd.N_reads' HO503.out).2.1); rintro e w14 ⟨rfl, hb⟩; refine ⟨_, rfl, ?_⟩; replace HO503 := aZ_ (Kd.N_below (kN HO503) hb); replace HB := aZ_ (below_step (bl HB) hb); (try clear hb); (try clear hb2); (try clear hk); (try clear hi)) | ((with_reducible refine gate_callee (f := 15) rfl ?_); refine goesL_ (some 23) rfl rfl Try.func15 (by kernel_rfl) rfl #[.slice AoG t501.length coG, .int .i64 a2] rfl gm_ ?_; (with_reducible refine (chancellaw9_pick.calls k _ _ t501 a2 t506 t507 _ ?side1 ?side2 A9.out).mono ?_); (case side1 => repeat (first | exact (Kd.N_reads' HO503.out).2.2 | (with_reducible refine Kd.C_alloc ?_ _) | (with_reducible refine Kd.C_drewN ?_ _) | (with_reducible refine Kd.C_drew ?_))); (case side2 => exact (Kd.N_reads' HO503.out).2.1); rintro e w15 ⟨rfl, hb⟩; refine ⟨_, rfl, ?_⟩; replace HO503 := aZ_ (Kd.N_below (kN HO503) hb); replace HB := aZ_ (below_step (bl HB) hb); (try clear hb); (try clear hb2); (try clear hk); (try clear hi)) | ((with_reducible refine gate_dst (N := 10) rfl ?_); refine bxE 10 #[.string (⟨#[]⟩ : ByteArray), .string (⟨#[]⟩ : ByteArray)] 28 ?_; intro gb508 hg w16 hbox hb; replace HO503 := aZ_ (Kd.N_below (Kd.N_elderB (kN HO503) gb508 (Nat.le_of_eq hg.symm)) hb); have BK508 := aZ_ (hbox); have GW508 := aZ_ ((by rw [hg]; exact (below_size (bl HB)) : w.heap.size ≤ gb508)); have GE508 := aZ_ ((by rw [hg]; exact (below_size (bl HB)) : w.heap.size ≤ gb508)); replace HB := aZ_ (below_step (bl HB) hb); clear hb hbox hg) | ((with_reducible refine gate_dst (N := 11) rfl ?_); refine bxE 11 #[.string (⟨#[]⟩ : ByteArray), .string (⟨#[]⟩ : ByteArray)] 28 ?_; intro gb509 hg w17 hbox hb; replace HO503 := aZ_ (Kd.N_below (Kd.N_elderB (kN HO503) gb509 (Nat.le_of_eq hg.symm)) hb); have BK509 := aZ_ (hbox); have GW509 := aZ_ ((by rw [hg]; exact (below_size (bl1 HB GE508)) : w.heap.size ≤ gb509)); have GE509 := aZ_ ((by rw [hg]; exact (below_size (bl1 HB GE508)) : w.heap.size ≤ gb509)); replace HB := aZ_ (below_step (bl1 HB GE508) hb); have NB508_509 := aZ_ ((by rw [hg]; exact Nat.ne_of_lt (blk_lt (g := gb508) (o := .cells #[.string (⟨#[]⟩ : ByteArray), .string (⟨#[]⟩ : ByteArray)] 28 (0, 0)) (bk BK508)) : gb508 ≠ gb509)); have NB509_508 := aZ_ ((by rw [hg]; exact Nat.ne_of_gt (blk_lt (g := gb508) (o := .cells #[.string (⟨#[]⟩ : ByteArray), .string (⟨#[]⟩ : ByteArray)] 28 (0, 0)) (bk BK508)) : gb509 ≠ gb508)); replace BK508 := aZ_ (blk_below (g := gb508) (o := .cells #[.string (⟨#[]⟩ : ByteArray), .string (⟨#[]⟩ : ByteArray)] 28 (0, 0)) (bk BK508) hb); clear hb hbox hg; have hnb18 := NB508_509.out; have hnc18 := NB509_508.out; obtain ⟨hcz19_0, hcz19_1, hfz19_0, hfz19_1⟩ := bc2 BK508; obtain ⟨hcz20_0, hcz20_1, hfz20_0, hfz20_1⟩ := bc2 BK509))
  (try simp only [Act.put, List.setIfInBounds_toArray, List.set_cons_zero, List.set_cons_succ])
  go_cut [12] (fun v12 wc => ∃ (kq : Nat) (x12_9 : List (S28)), Aside0 (chancellaw9_AboveAsks.j1 kq t501 x12_9 t504 t505 t506 t507 = some r) ∧ Aside0 (kq ≤ k) ∧ Aside0 (Kd.N k38 38 wc w.heap.size (fun k_ => some k_ ≠ (v12 : Value).ownBlock ∧ k_ ≠ gb508 ∧ k_ ≠ gb509) (.slice AoG t501.length coG) t501) ∧ Aside0 (Kd.R k28 28 wc w.heap.size (fun k_ => k_ ≠ gb508 ∧ k_ ≠ gb509) v12 x12_9) ∧ Aside0 (wc.heap[gb508]? = some (.cells #[.string t504, .string t505] 28 (0, 0))) ∧ Aside0 (wc.heap[gb509]? = some (.cells #[.string t506, .string t507] 28 (0, 0))) ∧ Aside0 (Below w.heap.size w wc))
  case first =>
   have H := HC10.out
   clear HC10
   have H' := aZ_ H
   clear H
   go_wp2
   go_loopg [12, 13] k (fun kq v12 v13 w' => ∃ (x12_1 : List (S28)) (x13_1 : Int), v13 = .int .i64 x13_1 ∧ Aside0 (chancellaw9_AboveAsks.l0 kq l3 t501 x12_1 x13_1 t504 t505 t506 t507 = some r) ∧ Aside0 (kq ≤ k) ∧ Aside0 (Kd.N k38 38 w' w.heap.size (fun k_ => some k_ ≠ (v12 : Value).ownBlock ∧ k_ ≠ gb508 ∧ k_ ≠ gb509) (.slice AoG t501.length coG) t501) ∧ Aside0 (Kd.R k28 28 w' w.heap.size (fun k_ => k_ ≠ gb508 ∧ k_ ≠ gb509) v12 x12_1) ∧ Aside0 (w'.heap[gb508]? = some (.cells #[.string t504, .string t505] 28 (0, 0))) ∧ Aside0 (w'.heap[gb509]? = some (.cells #[.string t506, .string t507] 28 (0, 0))) ∧ Aside0 (Below w.heap.size w w'))
   case atStart => exact ⟨(([] : List (S28))), (0), rf_, H', ⟨Nat.le_refl _⟩, ⟨by (with_reducible repeat (first | apply Kd.N_alloc | apply Kd.N_drewN | apply Kd.N_drew)); exact Kd.N_mono (Kd.N_far (p := ⟨gb509, 1, none⟩) (Kd.N_far (p := ⟨gb509, 0, none⟩) (Kd.N_far (p := ⟨gb508, 1, none⟩) (Kd.N_far (p := ⟨gb508, 0, none⟩) (Kd.N_mono (Kd.N_mono HO503.out (fun k_ hk => (⟨hk, hk.1.2⟩ : _ ∧ k_ ≠ gb508))) (fun k_ hk => (⟨hk, hk.1.2⟩ : _ ∧ k_ ≠ gb509))) (fun _ hk => hk.1.2) (.string t504)) (fun _ hk => hk.1.2) (.string t505)) (fun _ hk => hk.2) (.string t506)) (fun _ hk => hk.2) (.string t507)) (fun _ hk => ⟨(by simp [Value.ownBlock]), ⟨hk.1.1.1.2, hk.1.1.2⟩⟩)⟩, ⟨by first | exact Kd.R_nil _ _ _ _ _ | exact Kd.N_nil _ _ _ _ _ | exact Kd.V_nil _ _ _ _ _ | exact Kd.Q_nil _ _ _ _ _ | exact Kd.S_nil _ _ _ _ _⟩, ⟨by (with_reducible repeat (first | refine blk_drewN ?_ _ | refine blk_drew ?_ | refine blk_alloc ?_ _)); refine blk_far ?_ NB508_509.out _; (with_reducible repeat (first | refine blk_drewN ?_ _ | refine blk_drew ?_ | refine blk_alloc ?_ _)); refine blk_far ?_ NB508_509.out _; (with_reducible repeat (first | refine blk_drewN ?_ _ | refine blk_drew ?_ | refine blk_alloc ?_ _)); refine blk_put (cs := #[.string t504, .string (⟨#[]⟩ : ByteArray)]) ?_ 1 _ rfl; (with_reducible repeat (first | refine blk_drewN ?_ _ | refine blk_drew ?_ | refine blk_alloc ?_ _)); refine blk_put (cs := #[.string (⟨#[]⟩ : ByteArray), .string (⟨#[]⟩ : ByteArray)]) ?_ 0 _ rfl; (with_reducible repeat (first | refine blk_drewN ?_ _ | refine blk_drew ?_ | refine blk_alloc ?_ _)); exact BK508.out⟩, ⟨by (with_reducible repeat (first | refine blk_drewN ?_ _ | refine blk_drew ?_ | refine blk_alloc ?_ _)); refine blk_put (cs := #[.string t506, .string (⟨#[]⟩ : ByteArray)]) ?_ 1 _ rfl; (with_reducible repeat (first | refine blk_drewN ?_ _ | refine blk_drew ?_ | refine blk_alloc ?_ _)); refine blk_put (cs := #[.string (⟨#[]⟩ : ByteArray), .string (⟨#[]⟩ : ByteArray)]) ?_ 0 _ rfl; (with_reducible repeat (first | refine blk_drewN ?_ _ | refine blk_drew ?_ | refine blk_alloc ?_ _)); refine blk_far ?_ NB509_508.out _; (with_reducible repeat (first | refine blk_drewN ?_ _ | refine blk_drew ?_ | refine blk_alloc ?_ _)); refine blk_far ?_ NB509_508.out _; (with_reducible repeat (first | refine blk_drewN ?_ _ | refine blk_drew ?_ | refine blk_alloc ?_ _)); exact BK509.out⟩, ⟨bl2 HB GE508 GE509⟩⟩
   case round =>
    clear H'
    try clear c1
    try clear p2
    try clear c3
    try clear c6
    try clear c13
    try clear c14
    try clear c15
    try clear c18
    try clear hcz19_0
    try clear hcz19_1
    try clear hcz20_0
    try clear hcz20_1
    try clear hfz19_0
    try clear hfz19_1
    try clear hfz20_0
    try clear hfz20_1
    obtain ⟨x12_1, x13_1, rfl, HA, HK1, HO_9, HO_12, BK508, BK509, HB⟩ := hrel
    cases gk with
    | zero => exact absurd HA.out (by simp [chancellaw9_AboveAsks.l0])
    | succ k1 =>
     have H := HA.out
     clear HA
     simp only [chancellaw9_AboveAsks.l0] at H
     by_cases c21 : x13_1 < (l3.length : Int)
     ·
      rw [if_pos c21] at H
      have c21b0 : decide (x13_1 < (l3.length : Int)) = true := decide_eq_true c21
      clear c21
      (first | rw [c21b0] | (simp only [i64_w, i32_w]; rw [c21b0]) | skip)
      by_cases c22 : x13_1 < 4
      ·
       rw [if_pos c22] at H
       have c22b0 : decide (x13_1 < 4) = true := decide_eq_true c22
       clear c22
       by_cases c23 : 0 ≤ x13_1
       ·
        rw [if_pos c23] at H
        have c23b0 : decide (0 ≤ x13_1) = true := decide_eq_true c23
        clear c23
        replace H := Option.bind_eq_some_iff.mp H
        obtain ⟨⟨t511, t512⟩, A240, H⟩ := H
        replace H : (if x12_1.length < 4398046511104 then (chancellaw9_AboveAsks.l0 k1 l3 t501 (x12_1 ++ [(⟨t511, t512⟩ : S28)]) (wrap64 (x13_1 + 1)) t504 t505 t506 t507) else (none)) = some r := H
        have A24 := aZ_ A240
        clear A240
        by_cases c25 : x12_1.length < 4398046511104
        ·
         rw [if_pos c25] at H
         have LMc25 := aZ_ c25
         clear c25
         obtain ⟨y513, hy513⟩ : ∃ y_ : List (S28), y_ = (x12_1 ++ [(⟨t511, t512⟩ : S28)]) := ⟨_, rfl⟩
         replace H : (chancellaw9_AboveAsks.l0 k1 l3 t501 y513 (wrap64 (x13_1 + 1)) t504 t505 t506 t507) = some r := by first | (rw [hy513]; with_reducible exact H) | (have H2_ := (Option.bind_some _ _).symm.trans H; rw [hy513]; with_reducible exact H2_) | (have H2_ := (Option.bind_some _ _).symm.trans H; with_reducible exact H2_) | with_reducible exact H | (rw [hy513]; exact H) | exact H
         have Ny513 := aZ_ hy513
         clear hy513
         have H' := aZ_ H
         clear H
         have p510 : 0 ≤ (x13_1 : Int) := of_decide_eq_true asm_
         have q510 : x13_1 < (l3.length : Int) := of_decide_eq_true asm_
         obtain ⟨ad510, e510, hx510_0⟩ := Kd.at_int HR3.out x13_1 p510 q510
         cases e510
         replace hx510_0 := (hbc HB.out hx510_0 :)
         replace p510 := eq_true p510
         replace q510 := eq_true q510
         go_wp2_with (first | ((with_reducible refine gate_callee (f := 15) rfl ?_); refine goesL_ (some 40) rfl rfl Try.func15 (by kernel_rfl) rfl #[.slice AoG t501.length coG, .int .i64 (rd l3 x13_1)] rfl gm_ ?_; (with_reducible refine (chancellaw9_pick.calls k1 _ _ t501 (rd l3 x13_1) t511 t512 _ ?side1 ?side2 A24.out).mono ?_); (case side1 => repeat (first | exact (Kd.N_reads' HO_9.out).2.2 | (with_reducible refine Kd.C_alloc ?_ _) | (with_reducible refine Kd.C_drewN ?_ _) | (with_reducible refine Kd.C_drew ?_))); (case side2 => exact (Kd.N_reads' HO_9.out).2.1); rintro e w26 ⟨rfl, hb⟩; refine ⟨_, rfl, ?_⟩; replace HO_9 := aZ_ (Kd.N_below (kN HO_9) hb); replace HO_12 := aZ_ (Kd.R_below (kR HO_12) hb); replace BK508 := aZ_ (blk_below (g := gb508) (o := .cells #[.string t504, .string t505] 28 (0, 0)) (bk BK508) hb); replace BK509 := aZ_ (blk_below (g := gb509) (o := .cells #[.string t506, .string t507] 28 (0, 0)) (bk BK509) hb); replace HB := aZ_ (below_step (bl2 HB GE508 GE509) hb); (try clear hb); (try clear hb2); (try clear hk); (try clear hi)) | ((with_reducible refine gate_builtin (b := .append) (xs := #[.tmp 34, .tmp 41]) rfl ?_); at_builtin; refine Kd.R_append k28 (w0 := w) w.heap.size rfl (.tmp 34) (.tmp 41) 30 28 (.agg #[(.string ⟨#[]⟩), (.string ⟨#[]⟩)]) 32 rfl Try.underlying30 info28 rfl (by decide) (by omega) u12 x12_1 (⟨t511, t512⟩ : S28) [.string t511, .string t512] (fun k_ => k_ ≠ gb508 ∧ k_ ≠ gb509) (fun _ => False) rfl rfl ?aP (fun _ hk => hk.elim) ?aF ?aO ?aB ?aS ?aL ?_; (case aP => exact k28_mkM _ _ _ (⟨t511, t512⟩ : S28)); (case aB => exact (bl2 HB GE508 GE509)); (case aF => exact (fun k_ hk => ⟨Kd.freshB (g := gb508) (o := .cells #[.string t504, .string t505] 28 (0, 0)) (bk BK508) k_ hk, Kd.freshB (g := gb509) (o := .cells #[.string t506, .string t507] 28 (0, 0)) (bk BK509) k_ hk⟩)); (case aO => exact (kR HO_12)); (case aS => exact (below_size (bl2 HB GE508 GE509))); (case aL => have := LMc25.out; omega); intro v514 w27 ho hb hg hat; rw [← Ny513.out] at ho; replace HO_9 := aZ_ (Kd.N_afterv (ok := (fun k_ => k_ ≠ gb508 ∧ k_ ≠ gb509)) (by (with_reducible repeat (first | apply Kd.N_alloc | apply Kd.N_drewN | apply Kd.N_drew)); exact Kd.N_mono HO_9.out (fun _ hk => ⟨⟨hk.2.1, hk.2.2⟩, hk.1⟩)) hg hat); replace BK508 := aZ_ (blk_grown (g := gb508) (o := .cells #[.string t504, .string t505] 28 (0, 0)) (bk BK508) hg (Kd.R_away HO_12.out (fun _ hk => hk.1))); replace BK509 := aZ_ (blk_grown (g := gb509) (o := .cells #[.string t506, .string t507] 28 (0, 0)) (bk BK509) hg (Kd.R_away HO_12.out (fun _ hk => hk.2))); replace HB := aZ_ (hb); have HO515 := aZ_ (ho); clear HO_12; clear ho hb hg hat))
         go_roundg k1
         case measure => have := HK1.out; omega
         case rel => exact ⟨(y513), (wrap64 (x13_1 + 1)), rf_, H', ⟨by have := HK1.out; omega⟩, ⟨by (with_reducible repeat (first | apply Kd.N_alloc | apply Kd.N_drewN | apply Kd.N_drew)); exact Kd.N_mono HO_9.out (fun _ hk => ⟨hk.2, ⟨hk.1.1, hk.1.2⟩⟩)⟩, ⟨kR HO515⟩, ⟨bk BK508⟩, ⟨bk BK509⟩, ⟨bl2 HB GE508 GE509⟩⟩
        ·
         rw [if_neg c25] at H
         exact absurd H (by simp)
       ·
        rw [if_neg c23] at H
        exact absurd H (by simp)
      ·
       rw [if_neg c22] at H
       have c22b0 : decide (x13_1 < 4) = false := decide_eq_false c22
       clear c22
       have H' := aZ_ H
       clear H
       go_wp2
       go_meet
       case rel => exact ⟨_, (x12_1), H', ⟨by have := HK1.out; first | omega | exact Nat.le_refl _⟩, ⟨kN HO_9⟩, ⟨kR HO_12⟩, ⟨bk BK508⟩, ⟨bk BK509⟩, ⟨bl2 HB GE508 GE509⟩⟩
     ·
      rw [if_neg c21] at H
      have c21b0 : decide (x13_1 < (l3.length : Int)) = false := decide_eq_false c21
      clear c21
      (first | rw [c21b0] | (simp only [i64_w, i32_w]; rw [c21b0]) | skip)
      have H' := aZ_ H
      clear H
      go_wp2
      go_meet
      case rel => exact ⟨_, (x12_1), H', ⟨by have := HK1.out; first | omega | exact Nat.le_refl _⟩, ⟨kN HO_9⟩, ⟨kR HO_12⟩, ⟨bk BK508⟩, ⟨bk BK509⟩, ⟨bl2 HB GE508 GE509⟩⟩
  case rest =>
   clear HC10
   try clear c1
   try clear c2
   try clear p2
   try clear c3
   try clear p5
   try clear q5
   try clear hx5
   try clear c6
   try clear p6
   try clear c13
   try clear c14
   try clear c15
   try clear c18
   try clear c21
   try clear c21b0
   try clear c22
   try clear c22b0
   try clear c23
   try clear c23b0
   try clear c25
   try clear hcz19_0
   try clear hcz19_1
   try clear hcz20_0
   try clear hcz20_1
   try clear hfz19_0
   try clear hfz19_1
   try clear hfz20_0
   try clear hfz20_1
   try clear hx510_0
   try clear p2
   try clear p510
   try clear q510
   obtain ⟨kq, x12_9, HA, HJ9, HO_9, HO_12, BK508, BK509, HB⟩ := hcut
   cases kq with
   | zero => exact absurd HA.out (by simp [chancellaw9_AboveAsks.j1])
   | succ kj9 =>
    have H := HA.out
    clear HA
    simp only [chancellaw9_AboveAsks.j1] at H
    replace H := Option.bind_eq_some_iff.mp H
    obtain ⟨t516, A280, H⟩ := H
    replace H : ((chancelref9_In.f kj9 t501 t504 t505 t506 t507).bind fun t517 => (if (t516 == t517) = true then ((above_Above.f t501 t504 t505).bind fun t518 => ((chancelref9_Above.f t501 t504 t505).bind fun t521 => ((chancellaw9_same.f kj9 t518 t521).bind fun t524 => (if t524 = true then ((above_Below.f kj9 t501 t504 t505).bind fun t525 => ((chancelref9_Below.f kj9 t501 t504 t505).bind fun t528 => ((chancellaw9_same.f kj9 t525 t528).bind fun t531 => (if t531 = true then ((above_Circle.f t501 t504 t505 x12_9).bind fun t532 => ((chancelref9_Circle.f kj9 t501 t504 t505 x12_9).bind fun t533 => (some (t532 == t533)))) else (some false))))) else (some false))))) else (some false))) = some r := H
    have A28 := aZ_ A280
    clear A280
    replace H := Option.bind_eq_some_iff.mp H
    obtain ⟨t517, A290, H⟩ := H
    replace H : (if (t516 == t517) = true then ((above_Above.f t501 t504 t505).bind fun t518 => ((chancelref9_Above.f t501 t504 t505).bind fun t521 => ((chancellaw9_same.f kj9 t518 t521).bind fun t524 => (if t524 = true then ((above_Below.f kj9 t501 t504 t505).bind fun t525 => ((chancelref9_Below.f kj9 t501 t504 t505).bind fun t528 => ((chancellaw9_same.f kj9 t525 t528).bind fun t531 => (if t531 = true then ((above_Circle.f t501 t504 t505 x12_9).bind fun t532 => ((chancelref9_Circle.f kj9 t501 t504 t505 x12_9).bind fun t533 => (some (t532 == t533)))) else (some false))))) else (some false))))) else (some false)) = some r := H
    have A29 := aZ_ A290
    clear A290
    by_cases c30 : (t516 == t517) = true
    ·
     rw [if_pos c30] at H
     have c30b0 : (t516 == t517) = true := c30
     (try (have c30b1 : decide (t516 = t517) = true := by simpa using c30))
     (try (have c30b2 : (t516 == t517) = true := by simpa using c30))
     clear c30
     replace H := Option.bind_eq_some_iff.mp H
     obtain ⟨t518, A310, H⟩ := H
     replace H : ((chancelref9_Above.f t501 t504 t505).bind fun t521 => ((chancellaw9_same.f kj9 t518 t521).bind fun t524 => (if t524 = true then ((above_Below.f kj9 t501 t504 t505).bind fun t525 => ((chancelref9_Below.f kj9 t501 t504 t505).bind fun t528 => ((chancellaw9_same.f kj9 t525 t528).bind fun t531 => (if t531 = true then ((above_Circle.f t501 t504 t505 x12_9).bind fun t532 => ((chancelref9_Circle.f kj9 t501 t504 t505 x12_9).bind fun t533 => (some (t532 == t533)))) else (some false))))) else (some false)))) = some r := H
     have A31 := aZ_ A310
     clear A310
     replace H := Option.bind_eq_some_iff.mp H
     obtain ⟨t521, A320, H⟩ := H
     replace H : ((chancellaw9_same.f kj9 t518 t521).bind fun t524 => (if t524 = true then ((above_Below.f kj9 t501 t504 t505).bind fun t525 => ((chancelref9_Below.f kj9 t501 t504 t505).bind fun t528 => ((chancellaw9_same.f kj9 t525 t528).bind fun t531 => (if t531 = true then ((above_Circle.f t501 t504 t505 x12_9).bind fun t532 => ((chancelref9_Circle.f kj9 t501 t504 t505 x12_9).bind fun t533 => (some (t532 == t533)))) else (some false))))) else (some false))) = some r := H
     have A32 := aZ_ A320
     clear A320
     replace H := Option.bind_eq_some_iff.mp H
     obtain ⟨t524, A330, H⟩ := H
     replace H : (if t524 = true then ((above_Below.f kj9 t501 t504 t505).bind fun t525 => ((chancelref9_Below.f kj9 t501 t504 t505).bind fun t528 => ((chancellaw9_same.f kj9 t525 t528).bind fun t531 => (if t531 = true then ((above_Circle.f t501 t504 t505 x12_9).bind fun t532 => ((chancelref9_Circle.f kj9 t501 t504 t505 x12_9).bind fun t533 => (some (t532 == t533)))) else (some false))))) else (some false)) = some r := H
     have A33 := aZ_ A330
     clear A330
     by_cases c34 : t524 = true
     ·
      subst c34
      have H1 : ((above_Below.f kj9 t501 t504 t505).bind fun t525 => ((chancelref9_Below.f kj9 t501 t504 t505).bind fun t528 => ((chancellaw9_same.f kj9 t525 t528).bind fun t531 => (if t531 = true then ((above_Circle.f t501 t504 t505 x12_9).bind fun t532 => ((chancelref9_Circle.f kj9 t501 t504 t505 x12_9).bind fun t533 => (some (t532 == t533)))) else (some false))))) = some r := by rw [if_pos rfl] at H; exact H
      clear H
      have H := H1
      clear H1
      replace H := Option.bind_eq_some_iff.mp H
      obtain ⟨t525, A350, H⟩ := H
      replace H : ((chancelref9_Below.f kj9 t501 t504 t505).bind fun t528 => ((chancellaw9_same.f kj9 t525 t528).bind fun t531 => (if t531 = true then ((above_Circle.f t501 t504 t505 x12_9).bind fun t532 => ((chancelref9_Circle.f kj9 t501 t504 t505 x12_9).bind fun t533 => (some (t532 == t533)))) else (some false)))) = some r := H
      have A35 := aZ_ A350
      clear A350
      replace H := Option.bind_eq_some_iff.mp H
      obtain ⟨t528, A360, H⟩ := H
      replace H : ((chancellaw9_same.f kj9 t525 t528).bind fun t531 => (if t531 = true then ((above_Circle.f t501 t504 t505 x12_9).bind fun t532 => ((chancelref9_Circle.f kj9 t501 t504 t505 x12_9).bind fun t533 => (some (t532 == t533)))) else (some false))) = some r := H
      have A36 := aZ_ A360
      clear A360
      replace H := Option.bind_eq_some_iff.mp H
      obtain ⟨t531, A370, H⟩ := H
      replace H : (if t531 = true then ((above_Circle.f t501 t504 t505 x12_9).bind fun t532 => ((chancelref9_Circle.f kj9 t501 t504 t505 x12_9).bind fun t533 => (some (t532 == t533)))) else (some false)) = some r := H
      have A37 := aZ_ A370
      clear A370
      by_cases c38 : t531 = true
      ·
       subst c38
       have H1 : ((above_Circle.f t501 t504 t505 x12_9).bind fun t532 => ((chancelref9_Circle.f kj9 t501 t504 t505 x12_9).bind fun t533 => (some (t532 == t533)))) = some r := by rw [if_pos rfl] at H; exact H
       clear H
       have H := H1
       clear H1
       replace H := Option.bind_eq_some_iff.mp H
       obtain ⟨t532, A390, H⟩ := H
       replace H : ((chancelref9_Circle.f kj9 t501 t504 t505 x12_9).bind fun t533 => (some (t532 == t533))) = some r := H
       have A39 := aZ_ A390
       clear A390
       replace H := Option.bind_eq_some_iff.mp H
       obtain ⟨t533, A400, H⟩ := H
       replace H : (some (t532 == t533)) = some r := H
       have A40 := aZ_ A400
       clear A400
       obtain rfl := Option.some.inj H
       try go_wp2
       replace HO_9 := aZ_ (Kd.N_drew HO_9.out)
       replace HO_12 := aZ_ (Kd.R_drew HO_12.out)
       replace BK508 := aZ_ (blk_drew BK508.out)
       replace BK509 := aZ_ (blk_drew BK509.out)
       replace HB := aZ_ (below_drew1 HB.out)
       refine start_ (n := 39) (S := fun w' => w'.cell? ⟨gb508, 0, none⟩ = some (.string t504) ∧ w'.cell? ⟨gb508, 1, none⟩ = some (.string t505) ∧ w'.cell? ⟨gb509, 0, none⟩ = some (.string t506) ∧ w'.cell? ⟨gb509, 1, none⟩ = some (.string t507)) (ds := []) #[false, false, false, false, false, false, false, false, false, false, false, false, false, false, false, false, false, false, false, false, false, false, false, false, false, false, false, false, false, false, false, false, false, false, false, false, false, false, false] (by kernel_rfl) rfl rfl ⟨(blk_cell BK508.out 0).trans rfl, (blk_cell BK508.out 1).trans rfl, (blk_cell BK509.out 0).trans rfl, (blk_cell BK509.out 1).trans rfl⟩ (fun hHeld => ?_); refine with_tabW chancellaw9_AboveAsks.tab10 chancellaw9_AboveAsks.bits10 (fun HT_ HW_ => ?_)
       generalize wc.drew = w41 at HO_9 HO_12 BK508 BK509 HB hHeld ⊢
       refine pS_ 0 43 (fa 39 1) HT_ ?_
       refine pS_ 4 47 (fa 39 17) HT_ ?_
       refine tS_ 1 44 (fa 39 19) HT_ HW_ hHeld ?_
       refine tS_ 2 45 (fa 39 23) HT_ HW_ hHeld ?_
       refine tS_ 5 48 (fa 39 55) HT_ HW_ hHeld ?_
       refine tS_ 6 49 (fa 39 119) HT_ HW_ hHeld ?_
       refine one_ (i := 3) (N := some 46) #[true, true, true, true, true, true, true, false, false, false, false, false, false, false, false, false, false, false, false, false, false, false, false, false, false, false, false, false, false, false, false, false, false, false, false, false, false, false, false] rfl rfl (one_of HT_.out (by kernel_rfl)) (by decide) (fun K hK => ?_)
       refine goes_ Try.func16 (by kernel_rfl) rfl #[.slice AoG t501.length coG, .agg #[.string t504, .string t505], .agg #[.string t506, .string t507]] (by rfl) rfl rfl gm_ ?_
       with_reducible refine (above_In.calls _ _ t501 t504 t505 t506 t507 t516 _ ?side1 ?side2 A28.out).mono ?_
       (case side1 => repeat (first | exact (Kd.N_reads' HO_9.out).2.2 | (with_reducible refine Kd.C_alloc ?_ _) | (with_reducible refine Kd.C_drewN ?_ _) | (with_reducible refine Kd.C_drew ?_)))
       (case side2 => exact (Kd.N_reads' HO_9.out).2.1)
       rintro e w42 ⟨rfl, hb⟩
       refine ⟨_, rfl, ?_⟩
       replace HO_9 := aZ_ (Kd.N_below (kN HO_9) hb)
       replace HO_12 := aZ_ (Kd.R_below (kR HO_12) hb)
       replace BK508 := aZ_ (blk_below (g := gb508) (o := .cells #[.string t504, .string t505] 28 (0, 0)) (bk BK508) hb)
       replace BK509 := aZ_ (blk_below (g := gb509) (o := .cells #[.string t506, .string t507] 28 (0, 0)) (bk BK509) hb)
       replace HB := aZ_ (below_step (bl2 HB GE508 GE509) hb)
       (try clear hb)
       (try clear hb2)
       (try clear hk)
       (try clear hi)
       refine hK.out _ _ ⟨(blk_cell BK508.out 0).trans rfl, (blk_cell BK508.out 1).trans rfl, (blk_cell BK509.out 0).trans rfl, (blk_cell BK509.out 1).trans rfl⟩ (fun hHeld => ?_)
       clear hK K
       refine norm_ (a' := ?_) ?_ ?_
       rotate_left
       ·
        show Act.put _ (some 46) _ = _
        simp only [Act.put, List.setIfInBounds_toArray, List.set_cons_zero, List.set_cons_succ, i64_w, i32_w]
        rfl
       refine one_ (i := 7) (N := some 50) #[true, true, true, true, true, true, true, true, false, false, false, false, false, false, false, false, false, false, false, false, false, false, false, false, false, false, false, false, false, false, false, false, false, false, false, false, false, false, false] rfl rfl (one_of HT_.out (by kernel_rfl)) (by decide) (fun K hK => ?_)
       refine goes_ Try.func17 (by kernel_rfl) rfl #[.slice AoG t501.length coG, .agg #[.string t504, .string t505], .agg #[.string t506, .string t507]] (by rfl) rfl rfl gm_ ?_
       with_reducible refine (chancelref9_In.calls kj9 _ _ t501 t504 t505 t506 t507 t517 _ ?side1 ?side2 A29.out).mono ?_
       (case side1 => repeat (first | exact (Kd.N_reads' HO_9.out).2.2 | (with_reducible refine Kd.C_alloc ?_ _) | (with_reducible refine Kd.C_drewN ?_ _) | (with_reducible refine Kd.C_drew ?_)))
       (case side2 => exact (Kd.N_reads' HO_9.out).2.1)
       rintro e w43 ⟨rfl, hb⟩
       refine ⟨_, rfl, ?_⟩
       replace HO_9 := aZ_ (Kd.N_below (kN HO_9) hb)
       replace HO_12 := aZ_ (Kd.R_below (kR HO_12) hb)
       replace BK508 := aZ_ (blk_below (g := gb508) (o := .cells #[.string t504, .string t505] 28 (0, 0)) (bk BK508) hb)
       replace BK509 := aZ_ (blk_below (g := gb509) (o := .cells #[.string t506, .string t507] 28 (0, 0)) (bk BK509) hb)
       replace HB := aZ_ (below_step (bl2 HB GE508 GE509) hb)
       (try clear hb)
       (try clear hb2)
       (try clear hk)
       (try clear hi)
       refine hK.out _ _ ⟨(blk_cell BK508.out 0).trans rfl, (blk_cell BK508.out 1).trans rfl, (blk_cell BK509.out 0).trans rfl, (blk_cell BK509.out 1).trans rfl⟩ (fun hHeld => ?_)
       clear hK K
       refine norm_ (a' := ?_) ?_ ?_
       rotate_left
       ·
        show Act.put _ (some 50) _ = _
        simp only [Act.put, List.setIfInBounds_toArray, List.set_cons_zero, List.set_cons_succ, i64_w, i32_w]
        rfl
       refine pS_ 8 51 (fa 39 511) HT_ ?_
       refine pS_ 9 52 (fa 39 1023) HT_ ?_
       refine pS_ 10 53 (fa 39 2047) HT_ ?_
       refine pS_ 13 56 (fa 39 10239) HT_ ?_
       refine tS_ 11 54 (fa 39 12287) HT_ HW_ hHeld ?_
       refine tS_ 14 57 (fa 39 28671) HT_ HW_ hHeld ?_
       refine one_ (i := 12) (N := some 55) #[true, true, true, true, true, true, true, true, true, true, true, true, true, true, true, false, false, false, false, false, false, false, false, false, false, false, false, false, false, false, false, false, false, false, false, false, false, false, false] rfl rfl (one_of HT_.out (by kernel_rfl)) (by decide) (fun K hK => ?_)
       refine goes_ Try.func19 (by kernel_rfl) rfl #[.slice AoG t501.length coG, .agg #[.string t504, .string t505]] (by rfl) rfl rfl gm_ ?_
       with_reducible refine (above_Above.calls _ _ t501 t504 t505 t518 _ ?side1 ?side2 A31.out).mono ?_
       (case side1 => repeat (first | exact (Kd.N_reads' HO_9.out).2.2 | (with_reducible refine Kd.C_alloc ?_ _) | (with_reducible refine Kd.C_drewN ?_ _) | (with_reducible refine Kd.C_drew ?_)))
       (case side2 => exact (Kd.N_reads' HO_9.out).2.1)
       rintro e w44 ⟨v519, rfl, ho0, hb⟩
       refine ⟨_, rfl, ?_⟩
       have HO520 := aZ_ (Kd.V_lower (Kd.V_mono (ok' := fun k_ => some k_ ≠ (.slice AoG t501.length coG : Value).ownBlock ∧ some k_ ≠ (u12 : Value).ownBlock ∧ k_ ≠ gb508 ∧ k_ ≠ gb509) ho0 (fun k_ hk_ => ⟨(Kd.fresh' (Kd.N_lt (kN HO_9)) k_ hk_), (Kd.fresh' (Kd.R_lt (kR HO_12)) k_ hk_), (Kd.freshB (g := gb508) (o := .cells #[.string t504, .string t505] 28 (0, 0)) (bk BK508) k_ hk_), (Kd.freshB (g := gb509) (o := .cells #[.string t506, .string t507] 28 (0, 0)) (bk BK509) k_ hk_)⟩)) (below_size (bl2 HB GE508 GE509)))
       replace HO_9 := aZ_ (Kd.N_below (kN HO_9) hb)
       replace HO_12 := aZ_ (Kd.R_below (kR HO_12) hb)
       replace BK508 := aZ_ (blk_below (g := gb508) (o := .cells #[.string t504, .string t505] 28 (0, 0)) (bk BK508) hb)
       replace BK509 := aZ_ (blk_below (g := gb509) (o := .cells #[.string t506, .string t507] 28 (0, 0)) (bk BK509) hb)
       replace HB := aZ_ (below_step (bl2 HB GE508 GE509) hb)
       (try clear hb)
       (try clear hb2)
       (try clear hk)
       (try clear hi)
       (try clear ho0)
       refine hK.out _ _ ⟨(blk_cell BK508.out 0).trans rfl, (blk_cell BK508.out 1).trans rfl, (blk_cell BK509.out 0).trans rfl, (blk_cell BK509.out 1).trans rfl⟩ (fun hHeld => ?_)
       clear hK K
       refine norm_ (a' := ?_) ?_ ?_
       rotate_left
       ·
        show Act.put _ (some 55) _ = _
        simp only [Act.put, List.setIfInBounds_toArray, List.set_cons_zero, List.set_cons_succ, i64_w, i32_w]
        rfl
       refine one_ (i := 15) (N := some 58) #[true, true, true, true, true, true, true, true, true, true, true, true, true, true, true, true, false, false, false, false, false, false, false, false, false, false, false, false, false, false, false, false, false, false, false, false, false, false, false] rfl rfl (one_of HT_.out (by kernel_rfl)) (by decide) (fun K hK => ?_)
       refine goes_ Try.func20 (by kernel_rfl) rfl #[.slice AoG t501.length coG, .agg #[.string t504, .string t505]] (by rfl) rfl rfl gm_ ?_
       with_reducible refine (chancelref9_Above.calls _ _ t501 t504 t505 t521 _ ?side1 ?side2 A32.out).mono ?_
       (case side1 => repeat (first | exact (Kd.N_reads' HO_9.out).2.2 | (with_reducible refine Kd.C_alloc ?_ _) | (with_reducible refine Kd.C_drewN ?_ _) | (with_reducible refine Kd.C_drew ?_)))
       (case side2 => exact (Kd.N_reads' HO_9.out).2.1)
       rintro e w45 ⟨v522, rfl, ho0, hb⟩
       refine ⟨_, rfl, ?_⟩
       replace HO520 := aZ_ (Kd.V_below (kV HO520) hb)
       have HO523 := aZ_ (Kd.V_lower (Kd.V_mono (ok' := fun k_ => some k_ ≠ (.slice AoG t501.length coG : Value).ownBlock ∧ some k_ ≠ (u12 : Value).ownBlock ∧ k_ ≠ gb508 ∧ k_ ≠ gb509) ho0 (fun k_ hk_ => ⟨(Kd.fresh' (Kd.N_lt (kN HO_9)) k_ hk_), (Kd.fresh' (Kd.R_lt (kR HO_12)) k_ hk_), (Kd.freshB (g := gb508) (o := .cells #[.string t504, .string t505] 28 (0, 0)) (bk BK508) k_ hk_), (Kd.freshB (g := gb509) (o := .cells #[.string t506, .string t507] 28 (0, 0)) (bk BK509) k_ hk_)⟩)) (below_size (bl2 HB GE508 GE509)))
       replace HO_9 := aZ_ (Kd.N_below (kN HO_9) hb)
       replace HO_12 := aZ_ (Kd.R_below (kR HO_12) hb)
       replace BK508 := aZ_ (blk_below (g := gb508) (o := .cells #[.string t504, .string t505] 28 (0, 0)) (bk BK508) hb)
       replace BK509 := aZ_ (blk_below (g := gb509) (o := .cells #[.string t506, .string t507] 28 (0, 0)) (bk BK509) hb)
       replace HB := aZ_ (below_step (bl2 HB GE508 GE509) hb)
       (try clear hb)
       (try clear hb2)
       (try clear hk)
       (try clear hi)
       (try clear ho0)
       obtain ⟨Ao46, co46, eo46⟩ := Kd.V_slice HO520.out
       (first | subst eo46 | (injection eo46 with f1_ f2_ f3_; have f4_ := f1_.symm; have f5_ := f3_.symm; clear f1_ f2_ f3_; subst f4_; subst f5_))
       obtain ⟨Ao47, co47, eo47⟩ := Kd.V_slice HO523.out
       (first | subst eo47 | (injection eo47 with f1_ f2_ f3_; have f4_ := f1_.symm; have f5_ := f3_.symm; clear f1_ f2_ f3_; subst f4_; subst f5_))
       refine hK.out _ _ ⟨(blk_cell BK508.out 0).trans rfl, (blk_cell BK508.out 1).trans rfl, (blk_cell BK509.out 0).trans rfl, (blk_cell BK509.out 1).trans rfl⟩ (fun hHeld => ?_)
       clear hK K
       refine norm_ (a' := ?_) ?_ ?_
       rotate_left
       ·
        show Act.put _ (some 58) _ = _
        simp only [Act.put, List.setIfInBounds_toArray, List.set_cons_zero, List.set_cons_succ, i64_w, i32_w]
        rfl
       refine one_ (i := 16) (N := some 59) #[true, true, true, true, true, true, true, true, true, true, true, true, true, true, true, true, true, false, false, false, false, false, false, false, false, false, false, false, false, false, false, false, false, false, false, false, false, false, false] rfl rfl (one_of HT_.out (by kernel_rfl)) (by decide) (fun K hK => ?_)
       refine goes_ Try.func18 (by kernel_rfl) rfl #[.slice Ao46 t518.length co46, .slice Ao47 t521.length co47] (by rfl) rfl rfl gm_ ?_
       with_reducible refine (chancellaw9_same.calls kj9 _ _ t518 _ _ t521 true _ ?side1 ?side2 ?side3 ?side4 A33.out).mono ?_
       (case side1 => repeat (first | exact (Kd.V_reads' HO520.out).2.2 | (with_reducible refine Kd.C_alloc ?_ _) | (with_reducible refine Kd.C_drewN ?_ _) | (with_reducible refine Kd.C_drew ?_)))
       (case side2 => exact (Kd.V_reads' HO520.out).2.1)
       (case side3 => repeat (first | exact (Kd.V_reads' HO523.out).2.2 | (with_reducible refine Kd.C_alloc ?_ _) | (with_reducible refine Kd.C_drewN ?_ _) | (with_reducible refine Kd.C_drew ?_)))
       (case side4 => exact (Kd.V_reads' HO523.out).2.1)
       rintro e w' ⟨rfl, ⟨nd, rfl⟩⟩
       refine ⟨_, rfl, ?_⟩
       refine hK.out _ _ ⟨(blk_cell BK508.out 0).trans rfl, (blk_cell BK508.out 1).trans rfl, (blk_cell BK509.out 0).trans rfl, (blk_cell BK509.out 1).trans rfl⟩ (fun hHeld => ?_)
       clear hK K
       refine norm_ (a' := ?_) ?_ ?_
       rotate_left
       ·
        show Act.put _ (some 59) _ = _
        simp only [Act.put, List.setIfInBounds_toArray, List.set_cons_zero, List.set_cons_succ, i64_w, i32_w]
        rfl
       refine pS_ 17 60 (fa 39 262143) HT_ ?_
       refine pS_ 18 61 (fa 39 524287) HT_ ?_
       refine pS_ 19 62 (fa 39 1048575) HT_ ?_
       refine pS_ 22 65 (fa 39 5242879) HT_ ?_
       refine tS_ 20 63 (fa 39 6291455) HT_ HW_ hHeld ?_
       refine tS_ 23 66 (fa 39 14680063) HT_ HW_ hHeld ?_
       refine one_ (i := 21) (N := some 64) #[true, true, true, true, true, true, true, true, true, true, true, true, true, true, true, true, true, true, true, true, true, true, true, true, false, false, false, false, false, false, false, false, false, false, false, false, false, false, false] rfl rfl (one_of HT_.out (by kernel_rfl)) (by decide) (fun K hK => ?_)
       refine goes_ Try.func21 (by kernel_rfl) rfl #[.slice AoG t501.length coG, .agg #[.string t504, .string t505]] (by rfl) rfl rfl gm_ ?_
       with_reducible refine (above_Below.calls kj9 _ _ t501 t504 t505 t525 _ ?side1 ?side2 A35.out).mono ?_
       (case side1 => repeat (first | exact (Kd.N_reads' HO_9.out).2.2 | (with_reducible refine Kd.C_alloc ?_ _) | (with_reducible refine Kd.C_drewN ?_ _) | (with_reducible refine Kd.C_drew ?_)))
       (case side2 => exact (Kd.N_reads' HO_9.out).2.1)
       rintro e w48 ⟨v526, rfl, ho0, hb⟩
       refine ⟨_, rfl, ?_⟩
       replace HO_9 := aZ_ (Kd.N_elder' (kN HO_9) (Kd.R_base ho0) hb)
       replace HO520 := aZ_ (Kd.V_elder' (kV HO520) (Kd.R_base ho0) hb)
       replace HO523 := aZ_ (Kd.V_elder' (kV HO523) (Kd.R_base ho0) hb)
       have HO527 := aZ_ (Kd.R_lower (Kd.R_newB (Kd.R_newB (Kd.R_new' ho0 (Kd.R_lt (kR HO_12))) (g := gb508) (o := .cells #[.string t504, .string t505] 28 (0, 0)) (bk BK508)) (g := gb509) (o := .cells #[.string t506, .string t507] 28 (0, 0)) (bk BK509)) (below_size (bl2 HB GE508 GE509)))
       replace HO_12 := aZ_ (Kd.R_elder' (kR HO_12) (Kd.R_base ho0) hb)
       replace BK508 := aZ_ (blk_below (g := gb508) (o := .cells #[.string t504, .string t505] 28 (0, 0)) (bk BK508) hb)
       replace BK509 := aZ_ (blk_below (g := gb509) (o := .cells #[.string t506, .string t507] 28 (0, 0)) (bk BK509) hb)
       replace HB := aZ_ (below_step (bl2 HB GE508 GE509) hb)
       (try clear hb)
       (try clear hb2)
       (try clear hk)
       (try clear hi)
       (try clear ho0)
       refine hK.out _ _ ⟨(blk_cell BK508.out 0).trans rfl, (blk_cell BK508.out 1).trans rfl, (blk_cell BK509.out 0).trans rfl, (blk_cell BK509.out 1).trans rfl⟩ (fun hHeld => ?_)
       clear hK K
       refine norm_ (a' := ?_) ?_ ?_
       rotate_left
       ·
        show Act.put _ (some 64) _ = _
        simp only [Act.put, List.setIfInBounds_toArray, List.set_cons_zero, List.set_cons_succ, i64_w, i32_w]
        rfl
       refine one_ (i := 24) (N := some 67) #[true, true, true, true, true, true, true, true, true, true, true, true, true, true, true, true, true, true, true, true, true, true, true, true, true, false, false, false, false, false, false, false, false, false, false, false, false, false, false] rfl rfl (one_of HT_.out (by kernel_rfl)) (by decide) (fun K hK => ?_)
       refine goes_ Try.func22 (by kernel_rfl) rfl #[.slice AoG t501.length coG, .agg #[.string t504, .string t505]] (by rfl) rfl rfl gm_ ?_
       with_reducible refine (chancelref9_Below.calls kj9 _ _ t501 t504 t505 t528 _ ?side1 ?side2 A36.out).mono ?_
       (case side1 => repeat (first | exact (Kd.N_reads' HO_9.out).2.2 | (with_reducible refine Kd.C_alloc ?_ _) | (with_reducible refine Kd.C_drewN ?_ _) | (with_reducible refine Kd.C_drew ?_)))
       (case side2 => exact (Kd.N_reads' HO_9.out).2.1)
       rintro e w49 ⟨v529, rfl, ho0, hb⟩
       refine ⟨_, rfl, ?_⟩
       replace HO_9 := aZ_ (Kd.N_elder' (kN HO_9) (Kd.R_base ho0) hb)
       replace HO520 := aZ_ (Kd.V_elder' (kV HO520) (Kd.R_base ho0) hb)
       replace HO523 := aZ_ (Kd.V_elder' (kV HO523) (Kd.R_base ho0) hb)
       have HO530 := aZ_ (Kd.R_lower (Kd.R_newB (Kd.R_newB (Kd.R_new' (Kd.R_new' ho0 (Kd.R_lt (kR HO_12))) (Kd.R_lt (kR HO527))) (g := gb508) (o := .cells #[.string t504, .string t505] 28 (0, 0)) (bk BK508)) (g := gb509) (o := .cells #[.string t506, .string t507] 28 (0, 0)) (bk BK509)) (below_size (bl2 HB GE508 GE509)))
       replace HO_12 := aZ_ (Kd.R_elder' (kR HO_12) (Kd.R_base ho0) hb)
       replace HO527 := aZ_ (Kd.R_elder' (kR HO527) (Kd.R_base ho0) hb)
       replace BK508 := aZ_ (blk_below (g := gb508) (o := .cells #[.string t504, .string t505] 28 (0, 0)) (bk BK508) hb)
       replace BK509 := aZ_ (blk_below (g := gb509) (o := .cells #[.string t506, .string t507] 28 (0, 0)) (bk BK509) hb)
       replace HB := aZ_ (below_step (bl2 HB GE508 GE509) hb)
       (try clear hb)
       (try clear hb2)
       (try clear hk)
       (try clear hi)
       (try clear ho0)
       obtain ⟨Ao50, co50, eo50⟩ := Kd.R_slice HO527.out
       (first | subst eo50 | (injection eo50 with f1_ f2_ f3_; have f4_ := f1_.symm; have f5_ := f3_.symm; clear f1_ f2_ f3_; subst f4_; subst f5_))
       obtain ⟨Ao51, co51, eo51⟩ := Kd.R_slice HO530.out
       (first | subst eo51 | (injection eo51 with f1_ f2_ f3_; have f4_ := f1_.symm; have f5_ := f3_.symm; clear f1_ f2_ f3_; subst f4_; subst f5_))
       refine hK.out _ _ ⟨(blk_cell BK508.out 0).trans rfl, (blk_cell BK508.out 1).trans rfl, (blk_cell BK509.out 0).trans rfl, (blk_cell BK509.out 1).trans rfl⟩ (fun hHeld => ?_)
       clear hK K
       refine norm_ (a' := ?_) ?_ ?_
       rotate_left
       ·
        show Act.put _ (some 67) _ = _
        simp only [Act.put, List.setIfInBounds_toArray, List.set_cons_zero, List.set_cons_succ, i64_w, i32_w]
        rfl
       refine one_ (i := 25) (N := some 68) #[true, true, true, true, true, true, true, true, true, true, true, true, true, true, true, true, true, true, true, true, true, true, true, true, true, true, false, false, false, false, false, false, false, false, false, false, false, false, false] rfl rfl (one_of HT_.out (by kernel_rfl)) (by decide) (fun K hK => ?_)
       refine goes_ Try.func18 (by kernel_rfl) rfl #[.slice Ao50 t525.length co50, .slice Ao51 t528.length co51] (by rfl) rfl rfl gm_ ?_
       with_reducible refine (chancellaw9_same.calls kj9 _ _ t525 _ _ t528 true _ ?side1 ?side2 ?side3 ?side4 A37.out).mono ?_
       (case side1 => repeat (first | exact (Kd.R_reads' HO527.out).2.2 | (with_reducible refine Kd.C_alloc ?_ _) | (with_reducible refine Kd.C_drewN ?_ _) | (with_reducible refine Kd.C_drew ?_)))
       (case side2 => exact (Kd.R_reads' HO527.out).2.1)
       (case side3 => repeat (first | exact (Kd.R_reads' HO530.out).2.2 | (with_reducible refine Kd.C_alloc ?_ _) | (with_reducible refine Kd.C_drewN ?_ _) | (with_reducible refine Kd.C_drew ?_)))
       (case side4 => exact (Kd.R_reads' HO530.out).2.1)
       rintro e w' ⟨rfl, ⟨nd, rfl⟩⟩
       refine ⟨_, rfl, ?_⟩
       obtain ⟨Ao52, co52, eo52⟩ := Kd.R_slice HO_12.out
       (first | subst eo52 | (injection eo52 with f1_ f2_ f3_; have f4_ := f1_.symm; have f5_ := f3_.symm; clear f1_ f2_ f3_; subst f4_; subst f5_))
       refine hK.out _ _ ⟨(blk_cell BK508.out 0).trans rfl, (blk_cell BK508.out 1).trans rfl, (blk_cell BK509.out 0).trans rfl, (blk_cell BK509.out 1).trans rfl⟩ (fun hHeld => ?_)
       clear hK K
       refine norm_ (a' := ?_) ?_ ?_
       rotate_left
       ·
        show Act.put _ (some 68) _ = _
        simp only [Act.put, List.setIfInBounds_toArray, List.set_cons_zero, List.set_cons_succ, i64_w, i32_w]
        rfl
       refine pS_ 26 69 (fa 39 134217727) HT_ ?_
       refine pS_ 27 70 (fa 39 268435455) HT_ ?_
       refine pS_ 28 71 (fa 39 536870911) HT_ ?_
       refine pS_ 30 73 (fa 39 1610612735) HT_ ?_
       refine pS_ 32 75 (fa 39 5905580031) HT_ ?_
       refine pS_ 34 77 (fa 39 23085449215) HT_ ?_
       refine tS_ 29 72 (fa 39 23622320127) HT_ HW_ hHeld ?_
       refine tS_ 33 76 (fa 39 32212254719) HT_ HW_ hHeld ?_
       refine one_ (i := 31) (N := some 74) #[true, true, true, true, true, true, true, true, true, true, true, true, true, true, true, true, true, true, true, true, true, true, true, true, true, true, true, true, true, true, true, true, true, true, true, false, false, false, false] rfl rfl (one_of HT_.out (by kernel_rfl)) (by decide) (fun K hK => ?_)
       refine goes_ Try.func23 (by kernel_rfl) rfl #[.slice AoG t501.length coG, .agg #[.string t504, .string t505], .slice Ao52 x12_9.length co52] (by rfl) rfl rfl gm_ ?_
       with_reducible refine (above_Circle.calls _ _ t501 t504 t505 _ _ x12_9 t532 _ ?side1 ?side2 ?side3 ?side4 A39.out).mono ?_
       (case side1 => repeat (first | exact (Kd.N_reads' HO_9.out).2.2 | (with_reducible refine Kd.C_alloc ?_ _) | (with_reducible refine Kd.C_drewN ?_ _) | (with_reducible refine Kd.C_drew ?_)))
       (case side2 => exact (Kd.N_reads' HO_9.out).2.1)
       (case side3 => repeat (first | exact (Kd.R_reads' HO_12.out).2.2 | (with_reducible refine Kd.C_alloc ?_ _) | (with_reducible refine Kd.C_drewN ?_ _) | (with_reducible refine Kd.C_drew ?_)))
       (case side4 => exact (Kd.R_reads' HO_12.out).2.1)
       rintro e w53 ⟨rfl, hb⟩
       refine ⟨_, rfl, ?_⟩
       replace HO_9 := aZ_ (Kd.N_below (kN HO_9) hb)
       replace HO_12 := aZ_ (Kd.R_below (kR HO_12) hb)
       replace HO520 := aZ_ (Kd.V_below (kV HO520) hb)
       replace HO523 := aZ_ (Kd.V_below (kV HO523) hb)
       replace HO527 := aZ_ (Kd.R_below (kR HO527) hb)
       replace HO530 := aZ_ (Kd.R_below (kR HO530) hb)
       replace BK508 := aZ_ (blk_below (g := gb508) (o := .cells #[.string t504, .string t505] 28 (0, 0)) (bk BK508) hb)
       replace BK509 := aZ_ (blk_below (g := gb509) (o := .cells #[.string t506, .string t507] 28 (0, 0)) (bk BK509) hb)
       replace HB := aZ_ (below_step (bl2 HB GE508 GE509) hb)
       (try clear hb)
       (try clear hb2)
       (try clear hk)
       (try clear hi)
       refine hK.out _ _ ⟨(blk_cell BK508.out 0).trans rfl, (blk_cell BK508.out 1).trans rfl, (blk_cell BK509.out 0).trans rfl, (blk_cell BK509.out 1).trans rfl⟩ (fun hHeld => ?_)
       clear hK K
       refine norm_ (a' := ?_) ?_ ?_
       rotate_left
       ·
        show Act.put _ (some 74) _ = _
        simp only [Act.put, List.setIfInBounds_toArray, List.set_cons_zero, List.set_cons_succ, i64_w, i32_w]
        rfl
       refine one_ (i := 35) (N := some 78) #[true, true, true, true, true, true, true, true, true, true, true, true, true, true, true, true, true, true, true, true, true, true, true, true, true, true, true, true, true, true, true, true, true, true, true, true, false, false, false] rfl rfl (one_of HT_.out (by kernel_rfl)) (by decide) (fun K hK => ?_)
       refine goes_ Try.func24 (by kernel_rfl) rfl #[.slice AoG t501.length coG, .agg #[.string t504, .string t505], .slice Ao52 x12_9.length co52] (by rfl) rfl rfl gm_ ?_
       with_reducible refine (chancelref9_Circle.calls kj9 _ _ t501 t504 t505 _ _ x12_9 t533 _ ?side1 ?side2 ?side3 ?side4 A40.out).mono ?_
       (case side1 => repeat (first | exact (Kd.N_reads' HO_9.out).2.2 | (with_reducible refine Kd.C_alloc ?_ _) | (with_reducible refine Kd.C_drewN ?_ _) | (with_reducible refine Kd.C_drew ?_)))
       (case side2 => exact (Kd.N_reads' HO_9.out).2.1)
       (case side3 => repeat (first | exact (Kd.R_reads' HO_12.out).2.2 | (with_reducible refine Kd.C_alloc ?_ _) | (with_reducible refine Kd.C_drewN ?_ _) | (with_reducible refine Kd.C_drew ?_)))
       (case side4 => exact (Kd.R_reads' HO_12.out).2.1)
       rintro e w54 ⟨rfl, hb⟩
       refine ⟨_, rfl, ?_⟩
       replace HO_9 := aZ_ (Kd.N_below (kN HO_9) hb)
       replace HO_12 := aZ_ (Kd.R_below (kR HO_12) hb)
       replace HO520 := aZ_ (Kd.V_below (kV HO520) hb)
       replace HO523 := aZ_ (Kd.V_below (kV HO523) hb)
       replace HO527 := aZ_ (Kd.R_below (kR HO527) hb)
       replace HO530 := aZ_ (Kd.R_below (kR HO530) hb)
       replace BK508 := aZ_ (blk_below (g := gb508) (o := .cells #[.string t504, .string t505] 28 (0, 0)) (bk BK508) hb)
       replace BK509 := aZ_ (blk_below (g := gb509) (o := .cells #[.string t506, .string t507] 28 (0, 0)) (bk BK509) hb)
       replace HB := aZ_ (below_step (bl2 HB GE508 GE509) hb)
       (try clear hb)
       (try clear hb2)
       (try clear hk)
       (try clear hi)
       refine hK.out _ _ ⟨(blk_cell BK508.out 0).trans rfl, (blk_cell BK508.out 1).trans rfl, (blk_cell BK509.out 0).trans rfl, (blk_cell BK509.out 1).trans rfl⟩ (fun hHeld => ?_)
       clear hK K
       refine norm_ (a' := ?_) ?_ ?_
       rotate_left
       ·
        show Act.put _ (some 78) _ = _
        simp only [Act.put, List.setIfInBounds_toArray, List.set_cons_zero, List.set_cons_succ, i64_w, i32_w]
        rfl
       refine pS_ 36 79 (fa 39 137438953471) HT_ ?_
       refine pS_ 37 80 (fa 39 274877906943) HT_ ?_
       refine pS_ 38 8 (fa 39 549755813887) HT_ ?_
       refine done_ (done_of HT_.out (by kernel_rfl)) ?_
       try go_wp2
       go_ret
       exact ⟨by first | rfl | (simp [errW_none, errW_some] <;> rfl) | (simp [*, errW_none, errW_some] <;> rfl), bl2 HB GE508 GE509⟩
      ·
       replace c38 := Bool.eq_false_iff.mpr c38
       subst c38
       have H1 : (some false) = some r := by rw [if_neg (show ¬ (false = true) by decide)] at H; exact H
       clear H
       have H := H1
       clear H1
       obtain rfl := Option.some.inj H
       try go_wp2
       replace HO_9 := aZ_ (Kd.N_drew HO_9.out)
       replace HO_12 := aZ_ (Kd.R_drew HO_12.out)
       replace BK508 := aZ_ (blk_drew BK508.out)
       replace BK509 := aZ_ (blk_drew BK509.out)
       replace HB := aZ_ (below_drew1 HB.out)
       refine start_ (n := 39) (S := fun w' => w'.cell? ⟨gb508, 0, none⟩ = some (.string t504) ∧ w'.cell? ⟨gb508, 1, none⟩ = some (.string t505) ∧ w'.cell? ⟨gb509, 0, none⟩ = some (.string t506) ∧ w'.cell? ⟨gb509, 1, none⟩ = some (.string t507)) (ds := []) #[false, false, false, false, false, false, false, false, false, false, false, false, false, false, false, false, false, false, false, false, false, false, false, false, false, false, false, false, false, false, false, false, false, false, false, false, false, false, false] (by kernel_rfl) rfl rfl ⟨(blk_cell BK508.out 0).trans rfl, (blk_cell BK508.out 1).trans rfl, (blk_cell BK509.out 0).trans rfl, (blk_cell BK509.out 1).trans rfl⟩ (fun hHeld => ?_); refine with_tabW chancellaw9_AboveAsks.tab10 chancellaw9_AboveAsks.bits10 (fun HT_ HW_ => ?_)
       generalize wc.drew = w55 at HO_9 HO_12 BK508 BK509 HB hHeld ⊢
       refine pS_ 0 43 (fa 39 1) HT_ ?_
       refine pS_ 4 47 (fa 39 17) HT_ ?_
       refine tS_ 1 44 (fa 39 19) HT_ HW_ hHeld ?_
       refine tS_ 2 45 (fa 39 23) HT_ HW_ hHeld ?_
       refine tS_ 5 48 (fa 39 55) HT_ HW_ hHeld ?_
       refine tS_ 6 49 (fa 39 119) HT_ HW_ hHeld ?_
       refine one_ (i := 3) (N := some 46) #[true, true, true, true, true, true, true, false, false, false, false, false, false, false, false, false, false, false, false, false, false, false, false, false, false, false, false, false, false, false, false, false, false, false, false, false, false, false, false] rfl rfl (one_of HT_.out (by kernel_rfl)) (by decide) (fun K hK => ?_)
       refine goes_ Try.func16 (by kernel_rfl) rfl #[.slice AoG t501.length coG, .agg #[.string t504, .string t505], .agg #[.string t506, .string t507]] (by rfl) rfl rfl gm_ ?_
       with_reducible refine (above_In.calls _ _ t501 t504 t505 t506 t507 t516 _ ?side1 ?side2 A28.out).mono ?_
       (case side1 => repeat (first | exact (Kd.N_reads' HO_9.out).2.2 | (with_reducible refine Kd.C_alloc ?_ _) | (with_reducible refine Kd.C_drewN ?_ _) | (with_reducible refine Kd.C_drew ?_)))
       (case side2 => exact (Kd.N_reads' HO_9.out).2.1)
       rintro e w56 ⟨rfl, hb⟩
       refine ⟨_, rfl, ?_⟩
       replace HO_9 := aZ_ (Kd.N_below (kN HO_9) hb)
       replace HO_12 := aZ_ (Kd.R_below (kR HO_12) hb)
       replace BK508 := aZ_ (blk_below (g := gb508) (o := .cells #[.string t504, .string t505] 28 (0, 0)) (bk BK508) hb)
       replace BK509 := aZ_ (blk_below (g := gb509) (o := .cells #[.string t506, .string t507] 28 (0, 0)) (bk BK509) hb)
       replace HB := aZ_ (below_step (bl2 HB GE508 GE509) hb)
       (try clear hb)
       (try clear hb2)
       (try clear hk)
       (try clear hi)
       refine hK.out _ _ ⟨(blk_cell BK508.out 0).trans rfl, (blk_cell BK508.out 1).trans rfl, (blk_cell BK509.out 0).trans rfl, (blk_cell BK509.out 1).trans rfl⟩ (fun hHeld => ?_)
       clear hK K
       refine norm_ (a' := ?_) ?_ ?_
       rotate_left
       ·
        show Act.put _ (some 46) _ = _
        simp only [Act.put, List.setIfInBounds_toArray, List.set_cons_zero, List.set_cons_succ, i64_w, i32_w]
        rfl
       refine one_ (i := 7) (N := some 50) #[true, true, true, true, true, true, true, true, false, false, false, false, false, false, false, false, false, false, false, false, false, false, false, false, false, false, false, false, false, false, false, false, false, false, false, false, false, false, false] rfl rfl (one_of HT_.out (by kernel_rfl)) (by decide) (fun K hK => ?_)
       refine goes_ Try.func17 (by kernel_rfl) rfl #[.slice AoG t501.length coG, .agg #[.string t504, .string t505], .agg #[.string t506, .string t507]] (by rfl) rfl rfl gm_ ?_
       with_reducible refine (chancelref9_In.calls kj9 _ _ t501 t504 t505 t506 t507 t517 _ ?side1 ?side2 A29.out).mono ?_
       (case side1 => repeat (first | exact (Kd.N_reads' HO_9.out).2.2 | (with_reducible refine Kd.C_alloc ?_ _) | (with_reducible refine Kd.C_drewN ?_ _) | (with_reducible refine Kd.C_drew ?_)))
       (case side2 => exact (Kd.N_reads' HO_9.out).2.1)
       rintro e w57 ⟨rfl, hb⟩
       refine ⟨_, rfl, ?_⟩
       replace HO_9 := aZ_ (Kd.N_below (kN HO_9) hb)
       replace HO_12 := aZ_ (Kd.R_below (kR HO_12) hb)
       replace BK508 := aZ_ (blk_below (g := gb508) (o := .cells #[.string t504, .string t505] 28 (0, 0)) (bk BK508) hb)
       replace BK509 := aZ_ (blk_below (g := gb509) (o := .cells #[.string t506, .string t507] 28 (0, 0)) (bk BK509) hb)
       replace HB := aZ_ (below_step (bl2 HB GE508 GE509) hb)
       (try clear hb)
       (try clear hb2)
       (try clear hk)
       (try clear hi)
       refine hK.out _ _ ⟨(blk_cell BK508.out 0).trans rfl, (blk_cell BK508.out 1).trans rfl, (blk_cell BK509.out 0).trans rfl, (blk_cell BK509.out 1).trans rfl⟩ (fun hHeld => ?_)
       clear hK K
       refine norm_ (a' := ?_) ?_ ?_
       rotate_left
       ·
        show Act.put _ (some 50) _ = _
        simp only [Act.put, List.setIfInBounds_toArray, List.set_cons_zero, List.set_cons_succ, i64_w, i32_w]
        rfl
       refine pS_ 8 51 (fa 39 511) HT_ ?_
       refine pS_ 9 52 (fa 39 1023) HT_ ?_
       refine pS_ 10 53 (fa 39 2047) HT_ ?_
       refine pS_ 13 56 (fa 39 10239) HT_ ?_
       refine tS_ 11 54 (fa 39 12287) HT_ HW_ hHeld ?_
       refine tS_ 14 57 (fa 39 28671) HT_ HW_ hHeld ?_
       refine one_ (i := 12) (N := some 55) #[true, true, true, true, true, true, true, true, true, true, true, true, true, true, true, false, false, false, false, false, false, false, false, false, false, false, false, false, false, false, false, false, false, false, false, false, false, false, false] rfl rfl (one_of HT_.out (by kernel_rfl)) (by decide) (fun K hK => ?_)
       refine goes_ Try.func19 (by kernel_rfl) rfl #[.slice AoG t501.length coG, .agg #[.string t504, .string t505]] (by rfl) rfl rfl gm_ ?_
       with_reducible refine (above_Above.calls _ _ t501 t504 t505 t518 _ ?side1 ?side2 A31.out).mono ?_
       (case side1 => repeat (first | exact (Kd.N_reads' HO_9.out).2.2 | (with_reducible refine Kd.C_alloc ?_ _) | (with_reducible refine Kd.C_drewN ?_ _) | (with_reducible refine Kd.C_drew ?_)))
       (case side2 => exact (Kd.N_reads' HO_9.out).2.1)
       rintro e w58 ⟨v519, rfl, ho0, hb⟩
       refine ⟨_, rfl, ?_⟩
       have HO520 := aZ_ (Kd.V_lower (Kd.V_mono (ok' := fun k_ => some k_ ≠ (.slice AoG t501.length coG : Value).ownBlock ∧ some k_ ≠ (u12 : Value).ownBlock ∧ k_ ≠ gb508 ∧ k_ ≠ gb509) ho0 (fun k_ hk_ => ⟨(Kd.fresh' (Kd.N_lt (kN HO_9)) k_ hk_), (Kd.fresh' (Kd.R_lt (kR HO_12)) k_ hk_), (Kd.freshB (g := gb508) (o := .cells #[.string t504, .string t505] 28 (0, 0)) (bk BK508) k_ hk_), (Kd.freshB (g := gb509) (o := .cells #[.string t506, .string t507] 28 (0, 0)) (bk BK509) k_ hk_)⟩)) (below_size (bl2 HB GE508 GE509)))
       replace HO_9 := aZ_ (Kd.N_below (kN HO_9) hb)
       replace HO_12 := aZ_ (Kd.R_below (kR HO_12) hb)
       replace BK508 := aZ_ (blk_below (g := gb508) (o := .cells #[.string t504, .string t505] 28 (0, 0)) (bk BK508) hb)
       replace BK509 := aZ_ (blk_below (g := gb509) (o := .cells #[.string t506, .string t507] 28 (0, 0)) (bk BK509) hb)
       replace HB := aZ_ (below_step (bl2 HB GE508 GE509) hb)
       (try clear hb)
       (try clear hb2)
       (try clear hk)
       (try clear hi)
       (try clear ho0)
       refine hK.out _ _ ⟨(blk_cell BK508.out 0).trans rfl, (blk_cell BK508.out 1).trans rfl, (blk_cell BK509.out 0).trans rfl, (blk_cell BK509.out 1).trans rfl⟩ (fun hHeld => ?_)
       clear hK K
       refine norm_ (a' := ?_) ?_ ?_
       rotate_left
       ·
        show Act.put _ (some 55) _ = _
        simp only [Act.put, List.setIfInBounds_toArray, List.set_cons_zero, List.set_cons_succ, i64_w, i32_w]
        rfl
       refine one_ (i := 15) (N := some 58) #[true, true, true, true, true, true, true, true, true, true, true, true, true, true, true, true, false, false, false, false, false, false, false, false, false, false, false, false, false, false, false, false, false, false, false, false, false, false, false] rfl rfl (one_of HT_.out (by kernel_rfl)) (by decide) (fun K hK => ?_)
       refine goes_ Try.func20 (by kernel_rfl) rfl #[.slice AoG t501.length coG, .agg #[.string t504, .string t505]] (by rfl) rfl rfl gm_ ?_
       with_reducible refine (chancelref9_Above.calls _ _ t501 t504 t505 t521 _ ?side1 ?side2 A32.out).mono ?_
       (case side1 => repeat (first | exact (Kd.N_reads' HO_9.out).2.2 | (with_reducible refine Kd.C_alloc ?_ _) | (with_reducible refine Kd.C_drewN ?_ _) | (with_reducible refine Kd.C_drew ?_)))
       (case side2 => exact (Kd.N_reads' HO_9.out).2.1)
       rintro e w59 ⟨v522, rfl, ho0, hb⟩
       refine ⟨_, rfl, ?_⟩
       replace HO520 := aZ_ (Kd.V_below (kV HO520) hb)
       have HO523 := aZ_ (Kd.V_lower (Kd.V_mono (ok' := fun k_ => some k_ ≠ (.slice AoG t501.length coG : Value).ownBlock ∧ some k_ ≠ (u12 : Value).ownBlock ∧ k_ ≠ gb508 ∧ k_ ≠ gb509) ho0 (fun k_ hk_ => ⟨(Kd.fresh' (Kd.N_lt (kN HO_9)) k_ hk_), (Kd.fresh' (Kd.R_lt (kR HO_12)) k_ hk_), (Kd.freshB (g := gb508) (o := .cells #[.string t504, .string t505] 28 (0, 0)) (bk BK508) k_ hk_), (Kd.freshB (g := gb509) (o := .cells #[.string t506, .string t507] 28 (0, 0)) (bk BK509) k_ hk_)⟩)) (below_size (bl2 HB GE508 GE509)))
       replace HO_9 := aZ_ (Kd.N_below (kN HO_9) hb)
       replace HO_12 := aZ_ (Kd.R_below (kR HO_12) hb)
       replace BK508 := aZ_ (blk_below (g := gb508) (o := .cells #[.string t504, .string t505] 28 (0, 0)) (bk BK508) hb)
       replace BK509 := aZ_ (blk_below (g := gb509) (o := .cells #[.string t506, .string t507] 28 (0, 0)) (bk BK509) hb)
       replace HB := aZ_ (below_step (bl2 HB GE508 GE509) hb)
       (try clear hb)
       (try clear hb2)
       (try clear hk)
       (try clear hi)
       (try clear ho0)
       obtain ⟨Ao60, co60, eo60⟩ := Kd.V_slice HO520.out
       (first | subst eo60 | (injection eo60 with f1_ f2_ f3_; have f4_ := f1_.symm; have f5_ := f3_.symm; clear f1_ f2_ f3_; subst f4_; subst f5_))
       obtain ⟨Ao61, co61, eo61⟩ := Kd.V_slice HO523.out
       (first | subst eo61 | (injection eo61 with f1_ f2_ f3_; have f4_ := f1_.symm; have f5_ := f3_.symm; clear f1_ f2_ f3_; subst f4_; subst f5_))
       refine hK.out _ _ ⟨(blk_cell BK508.out 0).trans rfl, (blk_cell BK508.out 1).trans rfl, (blk_cell BK509.out 0).trans rfl, (blk_cell BK509.out 1).trans rfl⟩ (fun hHeld => ?_)
       clear hK K
       refine norm_ (a' := ?_) ?_ ?_
       rotate_left
       ·
        show Act.put _ (some 58) _ = _
        simp only [Act.put, List.setIfInBounds_toArray, List.set_cons_zero, List.set_cons_succ, i64_w, i32_w]
        rfl
       refine one_ (i := 16) (N := some 59) #[true, true, true, true, true, true, true, true, true, true, true, true, true, true, true, true, true, false, false, false, false, false, false, false, false, false, false, false, false, false, false, false, false, false, false, false, false, false, false] rfl rfl (one_of HT_.out (by kernel_rfl)) (by decide) (fun K hK => ?_)
       refine goes_ Try.func18 (by kernel_rfl) rfl #[.slice Ao60 t518.length co60, .slice Ao61 t521.length co61] (by rfl) rfl rfl gm_ ?_
       with_reducible refine (chancellaw9_same.calls kj9 _ _ t518 _ _ t521 true _ ?side1 ?side2 ?side3 ?side4 A33.out).mono ?_
       (case side1 => repeat (first | exact (Kd.V_reads' HO520.out).2.2 | (with_reducible refine Kd.C_alloc ?_ _) | (with_reducible refine Kd.C_drewN ?_ _) | (with_reducible refine Kd.C_drew ?_)))
       (case side2 => exact (Kd.V_reads' HO520.out).2.1)
       (case side3 => repeat (first | exact (Kd.V_reads' HO523.out).2.2 | (with_reducible refine Kd.C_alloc ?_ _) | (with_reducible refine Kd.C_drewN ?_ _) | (with_reducible refine Kd.C_drew ?_)))
       (case side4 => exact (Kd.V_reads' HO523.out).2.1)
       rintro e w' ⟨rfl, ⟨nd, rfl⟩⟩
       refine ⟨_, rfl, ?_⟩
       refine hK.out _ _ ⟨(blk_cell BK508.out 0).trans rfl, (blk_cell BK508.out 1).trans rfl, (blk_cell BK509.out 0).trans rfl, (blk_cell BK509.out 1).trans rfl⟩ (fun hHeld => ?_)
       clear hK K
       refine norm_ (a' := ?_) ?_ ?_
       rotate_left
       ·
        show Act.put _ (some 59) _ = _
        simp only [Act.put, List.setIfInBounds_toArray, List.set_cons_zero, List.set_cons_succ, i64_w, i32_w]
        rfl
       refine pS_ 17 60 (fa 39 262143) HT_ ?_
       refine pS_ 18 61 (fa 39 524287) HT_ ?_
       refine pS_ 19 62 (fa 39 1048575) HT_ ?_
       refine pS_ 22 65 (fa 39 5242879) HT_ ?_
       refine tS_ 20 63 (fa 39 6291455) HT_ HW_ hHeld ?_
       refine tS_ 23 66 (fa 39 14680063) HT_ HW_ hHeld ?_
       refine one_ (i := 21) (N := some 64) #[true, true, true, true, true, true, true, true, true, true, true, true, true, true, true, true, true, true, true, true, true, true, true, true, false, false, false, false, false, false, false, false, false, false, false, false, false, false, false] rfl rfl (one_of HT_.out (by kernel_rfl)) (by decide) (fun K hK => ?_)
       refine goes_ Try.func21 (by kernel_rfl) rfl #[.slice AoG t501.length coG, .agg #[.string t504, .string t505]] (by rfl) rfl rfl gm_ ?_
       with_reducible refine (above_Below.calls kj9 _ _ t501 t504 t505 t525 _ ?side1 ?side2 A35.out).mono ?_
       (case side1 => repeat (first | exact (Kd.N_reads' HO_9.out).2.2 | (with_reducible refine Kd.C_alloc ?_ _) | (with_reducible refine Kd.C_drewN ?_ _) | (with_reducible refine Kd.C_drew ?_)))
       (case side2 => exact (Kd.N_reads' HO_9.out).2.1)
       rintro e w62 ⟨v526, rfl, ho0, hb⟩
       refine ⟨_, rfl, ?_⟩
       replace HO_9 := aZ_ (Kd.N_elder' (kN HO_9) (Kd.R_base ho0) hb)
       replace HO520 := aZ_ (Kd.V_elder' (kV HO520) (Kd.R_base ho0) hb)
       replace HO523 := aZ_ (Kd.V_elder' (kV HO523) (Kd.R_base ho0) hb)
       have HO527 := aZ_ (Kd.R_lower (Kd.R_newB (Kd.R_newB (Kd.R_new' ho0 (Kd.R_lt (kR HO_12))) (g := gb508) (o := .cells #[.string t504, .string t505] 28 (0, 0)) (bk BK508)) (g := gb509) (o := .cells #[.string t506, .string t507] 28 (0, 0)) (bk BK509)) (below_size (bl2 HB GE508 GE509)))
       replace HO_12 := aZ_ (Kd.R_elder' (kR HO_12) (Kd.R_base ho0) hb)
       replace BK508 := aZ_ (blk_below (g := gb508) (o := .cells #[.string t504, .string t505] 28 (0, 0)) (bk BK508) hb)
       replace BK509 := aZ_ (blk_below (g := gb509) (o := .cells #[.string t506, .string t507] 28 (0, 0)) (bk BK509) hb)
       replace HB := aZ_ (below_step (bl2 HB GE508 GE509) hb)
       (try clear hb)
       (try clear hb2)
       (try clear hk)
       (try clear hi)
       (try clear ho0)
       refine hK.out _ _ ⟨(blk_cell BK508.out 0).trans rfl, (blk_cell BK508.out 1).trans rfl, (blk_cell BK509.out 0).trans rfl, (blk_cell BK509.out 1).trans rfl⟩ (fun hHeld => ?_)
       clear hK K
       refine norm_ (a' := ?_) ?_ ?_
       rotate_left
       ·
        show Act.put _ (some 64) _ = _
        simp only [Act.put, List.setIfInBounds_toArray, List.set_cons_zero, List.set_cons_succ, i64_w, i32_w]
        rfl
       refine one_ (i := 24) (N := some 67) #[true, true, true, true, true, true, true, true, true, true, true, true, true, true, true, true, true, true, true, true, true, true, true, true, true, false, false, false, false, false, false, false, false, false, false, false, false, false, false] rfl rfl (one_of HT_.out (by kernel_rfl)) (by decide) (fun K hK => ?_)
       refine goes_ Try.func22 (by kernel_rfl) rfl #[.slice AoG t501.length coG, .agg #[.string t504, .string t505]] (by rfl) rfl rfl gm_ ?_
       with_reducible refine (chancelref9_Below.calls kj9 _ _ t501 t504 t505 t528 _ ?side1 ?side2 A36.out).mono ?_
       (case side1 => repeat (first | exact (Kd.N_reads' HO_9.out).2.2 | (with_reducible refine Kd.C_alloc ?_ _) | (with_reducible refine Kd.C_drewN ?_ _) | (with_reducible refine Kd.C_drew ?_)))
       (case side2 => exact (Kd.N_reads' HO_9.out).2.1)
       rintro e w63 ⟨v529, rfl, ho0, hb⟩
       refine ⟨_, rfl, ?_⟩
       replace HO_9 := aZ_ (Kd.N_elder' (kN HO_9) (Kd.R_base ho0) hb)
       replace HO520 := aZ_ (Kd.V_elder' (kV HO520) (Kd.R_base ho0) hb)
       replace HO523 := aZ_ (Kd.V_elder' (kV HO523) (Kd.R_base ho0) hb)
       have HO530 := aZ_ (Kd.R_lower (Kd.R_newB (Kd.R_newB (Kd.R_new' (Kd.R_new' ho0 (Kd.R_lt (kR HO_12))) (Kd.R_lt (kR HO527))) (g := gb508) (o := .cells #[.string t504, .string t505] 28 (0, 0)) (bk BK508)) (g := gb509) (o := .cells #[.string t506, .string t507] 28 (0, 0)) (bk BK509)) (below_size (bl2 HB GE508 GE509)))
       replace HO_12 := aZ_ (Kd.R_elder' (kR HO_12) (Kd.R_base ho0) hb)
       replace HO527 := aZ_ (Kd.R_elder' (kR HO527) (Kd.R_base ho0) hb)
       replace BK508 := aZ_ (blk_below (g := gb508) (o := .cells #[.string t504, .string t505] 28 (0, 0)) (bk BK508) hb)
       replace BK509 := aZ_ (blk_below (g := gb509) (o := .cells #[.string t506, .string t507] 28 (0, 0)) (bk BK509) hb)
       replace HB := aZ_ (below_step (bl2 HB GE508 GE509) hb)
       (try clear hb)
       (try clear hb2)
       (try clear hk)
       (try clear hi)
       (try clear ho0)
       obtain ⟨Ao64, co64, eo64⟩ := Kd.R_slice HO527.out
       (first | subst eo64 | (injection eo64 with f1_ f2_ f3_; have f4_ := f1_.symm; have f5_ := f3_.symm; clear f1_ f2_ f3_; subst f4_; subst f5_))
       obtain ⟨Ao65, co65, eo65⟩ := Kd.R_slice HO530.out
       (first | subst eo65 | (injection eo65 with f1_ f2_ f3_; have f4_ := f1_.symm; have f5_ := f3_.symm; clear f1_ f2_ f3_; subst f4_; subst f5_))
       refine hK.out _ _ ⟨(blk_cell BK508.out 0).trans rfl, (blk_cell BK508.out 1).trans rfl, (blk_cell BK509.out 0).trans rfl, (blk_cell BK509.out 1).trans rfl⟩ (fun hHeld => ?_)
       clear hK K
       refine norm_ (a' := ?_) ?_ ?_
       rotate_left
       ·
        show Act.put _ (some 67) _ = _
        simp only [Act.put, List.setIfInBounds_toArray, List.set_cons_zero, List.set_cons_succ, i64_w, i32_w]
        rfl
       refine one_ (i := 25) (N := some 68) #[true, true, true, true, true, true, true, true, true, true, true, true, true, true, true, true, true, true, true, true, true, true, true, true, true, true, false, false, false, false, false, false, false, false, false, false, false, false, false] rfl rfl (one_of HT_.out (by kernel_rfl)) (by decide) (fun K hK => ?_)
       refine goes_ Try.func18 (by kernel_rfl) rfl #[.slice Ao64 t525.length co64, .slice Ao65 t528.length co65] (by rfl) rfl rfl gm_ ?_
       with_reducible refine (chancellaw9_same.calls kj9 _ _ t525 _ _ t528 false _ ?side1 ?side2 ?side3 ?side4 A37.out).mono ?_
       (case side1 => repeat (first | exact (Kd.R_reads' HO527.out).2.2 | (with_reducible refine Kd.C_alloc ?_ _) | (with_reducible refine Kd.C_drewN ?_ _) | (with_reducible refine Kd.C_drew ?_)))
       (case side2 => exact (Kd.R_reads' HO527.out).2.1)
       (case side3 => repeat (first | exact (Kd.R_reads' HO530.out).2.2 | (with_reducible refine Kd.C_alloc ?_ _) | (with_reducible refine Kd.C_drewN ?_ _) | (with_reducible refine Kd.C_drew ?_)))
       (case side4 => exact (Kd.R_reads' HO530.out).2.1)
       rintro e w' ⟨rfl, ⟨nd, rfl⟩⟩
       refine ⟨_, rfl, ?_⟩
       refine hK.out _ _ ⟨(blk_cell BK508.out 0).trans rfl, (blk_cell BK508.out 1).trans rfl, (blk_cell BK509.out 0).trans rfl, (blk_cell BK509.out 1).trans rfl⟩ (fun hHeld => ?_)
       clear hK K
       refine norm_ (a' := ?_) ?_ ?_
       rotate_left
       ·
        show Act.put _ (some 68) _ = _
        simp only [Act.put, List.setIfInBounds_toArray, List.set_cons_zero, List.set_cons_succ, i64_w, i32_w]
        rfl
       refine pS_ 26 69 (fa 39 134217727) HT_ ?_
       refine pS_ 27 70 (fa 39 268435455) HT_ ?_
       refine pU_ 28 71 (fa 39 536870911) HT_ ?_
       refine pU_ 29 72 (fa 39 1073741823) HT_ ?_
       refine pU_ 30 73 (fa 39 2147483647) HT_ ?_
       refine pU_ 31 74 (fa 39 4294967295) HT_ ?_
       refine pU_ 32 75 (fa 39 8589934591) HT_ ?_
       refine pU_ 33 76 (fa 39 17179869183) HT_ ?_
       refine pU_ 34 77 (fa 39 34359738367) HT_ ?_
       refine pU_ 35 78 (fa 39 68719476735) HT_ ?_
       refine pU_ 36 79 (fa 39 137438953471) HT_ ?_
       refine pS_ 37 80 (fa 39 274877906943) HT_ ?_
       refine pS_ 38 8 (fa 39 549755813887) HT_ ?_
       refine done_ (done_of HT_.out (by kernel_rfl)) ?_
       try go_wp2
       go_ret
       exact ⟨by first | rfl | (simp [errW_none, errW_some] <;> rfl) | (simp [*, errW_none, errW_some] <;> rfl), bl2 HB GE508 GE509⟩
     ·
      replace c34 := Bool.eq_false_iff.mpr c34
      subst c34
      have H1 : (some false) = some r := by rw [if_neg (show ¬ (false = true) by decide)] at H; exact H
      clear H
      have H := H1
      clear H1
      obtain rfl := Option.some.inj H
      try go_wp2
      replace HO_9 := aZ_ (Kd.N_drew HO_9.out)
      replace HO_12 := aZ_ (Kd.R_drew HO_12.out)
      replace BK508 := aZ_ (blk_drew BK508.out)
      replace BK509 := aZ_ (blk_drew BK509.out)
      replace HB := aZ_ (below_drew1 HB.out)
      refine start_ (n := 39) (S := fun w' => w'.cell? ⟨gb508, 0, none⟩ = some (.string t504) ∧ w'.cell? ⟨gb508, 1, none⟩ = some (.string t505) ∧ w'.cell? ⟨gb509, 0, none⟩ = some (.string t506) ∧ w'.cell? ⟨gb509, 1, none⟩ = some (.string t507)) (ds := []) #[false, false, false, false, false, false, false, false, false, false, false, false, false, false, false, false, false, false, false, false, false, false, false, false, false, false, false, false, false, false, false, false, false, false, false, false, false, false, false] (by kernel_rfl) rfl rfl ⟨(blk_cell BK508.out 0).trans rfl, (blk_cell BK508.out 1).trans rfl, (blk_cell BK509.out 0).trans rfl, (blk_cell BK509.out 1).trans rfl⟩ (fun hHeld => ?_); refine with_tabW chancellaw9_AboveAsks.tab10 chancellaw9_AboveAsks.bits10 (fun HT_ HW_ => ?_)
      generalize wc.drew = w66 at HO_9 HO_12 BK508 BK509 HB hHeld ⊢
      refine pS_ 0 43 (fa 39 1) HT_ ?_
      refine pS_ 4 47 (fa 39 17) HT_ ?_
      refine tS_ 1 44 (fa 39 19) HT_ HW_ hHeld ?_
      refine tS_ 2 45 (fa 39 23) HT_ HW_ hHeld ?_
      refine tS_ 5 48 (fa 39 55) HT_ HW_ hHeld ?_
      refine tS_ 6 49 (fa 39 119) HT_ HW_ hHeld ?_
      refine one_ (i := 3) (N := some 46) #[true, true, true, true, true, true, true, false, false, false, false, false, false, false, false, false, false, false, false, false, false, false, false, false, false, false, false, false, false, false, false, false, false, false, false, false, false, false, false] rfl rfl (one_of HT_.out (by kernel_rfl)) (by decide) (fun K hK => ?_)
      refine goes_ Try.func16 (by kernel_rfl) rfl #[.slice AoG t501.length coG, .agg #[.string t504, .string t505], .agg #[.string t506, .string t507]] (by rfl) rfl rfl gm_ ?_
      with_reducible refine (above_In.calls _ _ t501 t504 t505 t506 t507 t516 _ ?side1 ?side2 A28.out).mono ?_
      (case side1 => repeat (first | exact (Kd.N_reads' HO_9.out).2.2 | (with_reducible refine Kd.C_alloc ?_ _) | (with_reducible refine Kd.C_drewN ?_ _) | (with_reducible refine Kd.C_drew ?_)))
      (case side2 => exact (Kd.N_reads' HO_9.out).2.1)
      rintro e w67 ⟨rfl, hb⟩
      refine ⟨_, rfl, ?_⟩
      replace HO_9 := aZ_ (Kd.N_below (kN HO_9) hb)
      replace HO_12 := aZ_ (Kd.R_below (kR HO_12) hb)
      replace BK508 := aZ_ (blk_below (g := gb508) (o := .cells #[.string t504, .string t505] 28 (0, 0)) (bk BK508) hb)
      replace BK509 := aZ_ (blk_below (g := gb509) (o := .cells #[.string t506, .string t507] 28 (0, 0)) (bk BK509) hb)
      replace HB := aZ_ (below_step (bl2 HB GE508 GE509) hb)
      (try clear hb)
      (try clear hb2)
      (try clear hk)
      (try clear hi)
      refine hK.out _ _ ⟨(blk_cell BK508.out 0).trans rfl, (blk_cell BK508.out 1).trans rfl, (blk_cell BK509.out 0).trans rfl, (blk_cell BK509.out 1).trans rfl⟩ (fun hHeld => ?_)
      clear hK K
      refine norm_ (a' := ?_) ?_ ?_
      rotate_left
      ·
       show Act.put _ (some 46) _ = _
       simp only [Act.put, List.setIfInBounds_toArray, List.set_cons_zero, List.set_cons_succ, i64_w, i32_w]
       rfl
      refine one_ (i := 7) (N := some 50) #[true, true, true, true, true, true, true, true, false, false, false, false, false, false, false, false, false, false, false, false, false, false, false, false, false, false, false, false, false, false, false, false, false, false, false, false, false, false, false] rfl rfl (one_of HT_.out (by kernel_rfl)) (by decide) (fun K hK => ?_)
      refine goes_ Try.func17 (by kernel_rfl) rfl #[.slice AoG t501.length coG, .agg #[.string t504, .string t505], .agg #[.string t506, .string t507]] (by rfl) rfl rfl gm_ ?_
      with_reducible refine (chancelref9_In.calls kj9 _ _ t501 t504 t505 t506 t507 t517 _ ?side1 ?side2 A29.out).mono ?_
      (case side1 => repeat (first | exact (Kd.N_reads' HO_9.out).2.2 | (with_reducible refine Kd.C_alloc ?_ _) | (with_reducible refine Kd.C_drewN ?_ _) | (with_reducible refine Kd.C_drew ?_)))
      (case side2 => exact (Kd.N_reads' HO_9.out).2.1)
      rintro e w68 ⟨rfl, hb⟩
      refine ⟨_, rfl, ?_⟩
      replace HO_9 := aZ_ (Kd.N_below (kN HO_9) hb)
      replace HO_12 := aZ_ (Kd.R_below (kR HO_12) hb)
      replace BK508 := aZ_ (blk_below (g := gb508) (o := .cells #[.string t504, .string t505] 28 (0, 0)) (bk BK508) hb)
      replace BK509 := aZ_ (blk_below (g := gb509) (o := .cells #[.string t506, .string t507] 28 (0, 0)) (bk BK509) hb)
      replace HB := aZ_ (below_step (bl2 HB GE508 GE509) hb)
      (try clear hb)
      (try clear hb2)
      (try clear hk)
      (try clear hi)
      refine hK.out _ _ ⟨(blk_cell BK508.out 0).trans rfl, (blk_cell BK508.out 1).trans rfl, (blk_cell BK509.out 0).trans rfl, (blk_cell BK509.out 1).trans rfl⟩ (fun hHeld => ?_)
      clear hK K
      refine norm_ (a' := ?_) ?_ ?_
      rotate_left
      ·
       show Act.put _ (some 50) _ = _
       simp only [Act.put, List.setIfInBounds_toArray, List.set_cons_zero, List.set_cons_succ, i64_w, i32_w]
       rfl
      refine pS_ 8 51 (fa 39 511) HT_ ?_
      refine pS_ 9 52 (fa 39 1023) HT_ ?_
      refine pS_ 10 53 (fa 39 2047) HT_ ?_
      refine pS_ 13 56 (fa 39 10239) HT_ ?_
      refine tS_ 11 54 (fa 39 12287) HT_ HW_ hHeld ?_
      refine tS_ 14 57 (fa 39 28671) HT_ HW_ hHeld ?_
      refine one_ (i := 12) (N := some 55) #[true, true, true, true, true, true, true, true, true, true, true, true, true, true, true, false, false, false, false, false, false, false, false, false, false, false, false, false, false, false, false, false, false, false, false, false, false, false, false] rfl rfl (one_of HT_.out (by kernel_rfl)) (by decide) (fun K hK => ?_)
      refine goes_ Try.func19 (by kernel_rfl) rfl #[.slice AoG t501.length coG, .agg #[.string t504, .string t505]] (by rfl) rfl rfl gm_ ?_
      with_reducible refine (above_Above.calls _ _ t501 t504 t505 t518 _ ?side1 ?side2 A31.out).mono ?_
      (case side1 => repeat (first | exact (Kd.N_reads' HO_9.out).2.2 | (with_reducible refine Kd.C_alloc ?_ _) | (with_reducible refine Kd.C_drewN ?_ _) | (with_reducible refine Kd.C_drew ?_)))
      (case side2 => exact (Kd.N_reads' HO_9.out).2.1)
      rintro e w69 ⟨v519, rfl, ho0, hb⟩
      refine ⟨_, rfl, ?_⟩
      have HO520 := aZ_ (Kd.V_lower (Kd.V_mono (ok' := fun k_ => some k_ ≠ (.slice AoG t501.length coG : Value).ownBlock ∧ some k_ ≠ (u12 : Value).ownBlock ∧ k_ ≠ gb508 ∧ k_ ≠ gb509) ho0 (fun k_ hk_ => ⟨(Kd.fresh' (Kd.N_lt (kN HO_9)) k_ hk_), (Kd.fresh' (Kd.R_lt (kR HO_12)) k_ hk_), (Kd.freshB (g := gb508) (o := .cells #[.string t504, .string t505] 28 (0, 0)) (bk BK508) k_ hk_), (Kd.freshB (g := gb509) (o := .cells #[.string t506, .string t507] 28 (0, 0)) (bk BK509) k_ hk_)⟩)) (below_size (bl2 HB GE508 GE509)))
      replace HO_9 := aZ_ (Kd.N_below (kN HO_9) hb)
      replace HO_12 := aZ_ (Kd.R_below (kR HO_12) hb)
      replace BK508 := aZ_ (blk_below (g := gb508) (o := .cells #[.string t504, .string t505] 28 (0, 0)) (bk BK508) hb)
      replace BK509 := aZ_ (blk_below (g := gb509) (o := .cells #[.string t506, .string t507] 28 (0, 0)) (bk BK509) hb)
      replace HB := aZ_ (below_step (bl2 HB GE508 GE509) hb)
      (try clear hb)
      (try clear hb2)
      (try clear hk)
      (try clear hi)
      (try clear ho0)
      refine hK.out _ _ ⟨(blk_cell BK508.out 0).trans rfl, (blk_cell BK508.out 1).trans rfl, (blk_cell BK509.out 0).trans rfl, (blk_cell BK509.out 1).trans rfl⟩ (fun hHeld => ?_)
      clear hK K
      refine norm_ (a' := ?_) ?_ ?_
      rotate_left
      ·
       show Act.put _ (some 55) _ = _
       simp only [Act.put, List.setIfInBounds_toArray, List.set_cons_zero, List.set_cons_succ, i64_w, i32_w]
       rfl
      refine one_ (i := 15) (N := some 58) #[true, true, true, true, true, true, true, true, true, true, true, true, true, true, true, true, false, false, false, false, false, false, false, false, false, false, false, false, false, false, false, false, false, false, false, false, false, false, false] rfl rfl (one_of HT_.out (by kernel_rfl)) (by decide) (fun K hK => ?_)
      refine goes_ Try.func20 (by kernel_rfl) rfl #[.slice AoG t501.length coG, .agg #[.string t504, .string t505]] (by rfl) rfl rfl gm_ ?_
      with_reducible refine (chancelref9_Above.calls _ _ t501 t504 t505 t521 _ ?side1 ?side2 A32.out).mono ?_
      (case side1 => repeat (first | exact (Kd.N_reads' HO_9.out).2.2 | (with_reducible refine Kd.C_alloc ?_ _) | (with_reducible refine Kd.C_drewN ?_ _) | (with_reducible refine Kd.C_drew ?_)))
      (case side2 => exact (Kd.N_reads' HO_9.out).2.1)
      rintro e w70 ⟨v522, rfl, ho0, hb⟩
      refine ⟨_, rfl, ?_⟩
      replace HO520 := aZ_ (Kd.V_below (kV HO520) hb)
      have HO523 := aZ_ (Kd.V_lower (Kd.V_mono (ok' := fun k_ => some k_ ≠ (.slice AoG t501.length coG : Value).ownBlock ∧ some k_ ≠ (u12 : Value).ownBlock ∧ k_ ≠ gb508 ∧ k_ ≠ gb509) ho0 (fun k_ hk_ => ⟨(Kd.fresh' (Kd.N_lt (kN HO_9)) k_ hk_), (Kd.fresh' (Kd.R_lt (kR HO_12)) k_ hk_), (Kd.freshB (g := gb508) (o := .cells #[.string t504, .string t505] 28 (0, 0)) (bk BK508) k_ hk_), (Kd.freshB (g := gb509) (o := .cells #[.string t506, .string t507] 28 (0, 0)) (bk BK509) k_ hk_)⟩)) (below_size (bl2 HB GE508 GE509)))
      replace HO_9 := aZ_ (Kd.N_below (kN HO_9) hb)
      replace HO_12 := aZ_ (Kd.R_below (kR HO_12) hb)
      replace BK508 := aZ_ (blk_below (g := gb508) (o := .cells #[.string t504, .string t505] 28 (0, 0)) (bk BK508) hb)
      replace BK509 := aZ_ (blk_below (g := gb509) (o := .cells #[.string t506, .string t507] 28 (0, 0)) (bk BK509) hb)
      replace HB := aZ_ (below_step (bl2 HB GE508 GE509) hb)
      (try clear hb)
      (try clear hb2)
      (try clear hk)
      (try clear hi)
      (try clear ho0)
      obtain ⟨Ao71, co71, eo71⟩ := Kd.V_slice HO520.out
      (first | subst eo71 | (injection eo71 with f1_ f2_ f3_; have f4_ := f1_.symm; have f5_ := f3_.symm; clear f1_ f2_ f3_; subst f4_; subst f5_))
      obtain ⟨Ao72, co72, eo72⟩ := Kd.V_slice HO523.out
      (first | subst eo72 | (injection eo72 with f1_ f2_ f3_; have f4_ := f1_.symm; have f5_ := f3_.symm; clear f1_ f2_ f3_; subst f4_; subst f5_))
      refine hK.out _ _ ⟨(blk_cell BK508.out 0).trans rfl, (blk_cell BK508.out 1).trans rfl, (blk_cell BK509.out 0).trans rfl, (blk_cell BK509.out 1).trans rfl⟩ (fun hHeld => ?_)
      clear hK K
      refine norm_ (a' := ?_) ?_ ?_
      rotate_left
      ·
       show Act.put _ (some 58) _ = _
       simp only [Act.put, List.setIfInBounds_toArray, List.set_cons_zero, List.set_cons_succ, i64_w, i32_w]
       rfl
      refine one_ (i := 16) (N := some 59) #[true, true, true, true, true, true, true, true, true, true, true, true, true, true, true, true, true, false, false, false, false, false, false, false, false, false, false, false, false, false, false, false, false, false, false, false, false, false, false] rfl rfl (one_of HT_.out (by kernel_rfl)) (by decide) (fun K hK => ?_)
      refine goes_ Try.func18 (by kernel_rfl) rfl #[.slice Ao71 t518.length co71, .slice Ao72 t521.length co72] (by rfl) rfl rfl gm_ ?_
      with_reducible refine (chancellaw9_same.calls kj9 _ _ t518 _ _ t521 false _ ?side1 ?side2 ?side3 ?side4 A33.out).mono ?_
      (case side1 => repeat (first | exact (Kd.V_reads' HO520.out).2.2 | (with_reducible refine Kd.C_alloc ?_ _) | (with_reducible refine Kd.C_drewN ?_ _) | (with_reducible refine Kd.C_drew ?_)))
      (case side2 => exact (Kd.V_reads' HO520.out).2.1)
      (case side3 => repeat (first | exact (Kd.V_reads' HO523.out).2.2 | (with_reducible refine Kd.C_alloc ?_ _) | (with_reducible refine Kd.C_drewN ?_ _) | (with_reducible refine Kd.C_drew ?_)))
      (case side4 => exact (Kd.V_reads' HO523.out).2.1)
      rintro e w' ⟨rfl, ⟨nd, rfl⟩⟩
      refine ⟨_, rfl, ?_⟩
      refine hK.out _ _ ⟨(blk_cell BK508.out 0).trans rfl, (blk_cell BK508.out 1).trans rfl, (blk_cell BK509.out 0).trans rfl, (blk_cell BK509.out 1).trans rfl⟩ (fun hHeld => ?_)
      clear hK K
      refine norm_ (a' := ?_) ?_ ?_
      rotate_left
      ·
       show Act.put _ (some 59) _ = _
       simp only [Act.put, List.setIfInBounds_toArray, List.set_cons_zero, List.set_cons_succ, i64_w, i32_w]
       rfl
      refine pS_ 17 60 (fa 39 262143) HT_ ?_
      refine pS_ 18 61 (fa 39 524287) HT_ ?_
      refine pU_ 19 62 (fa 39 1048575) HT_ ?_
      refine pU_ 20 63 (fa 39 2097151) HT_ ?_
      refine pU_ 21 64 (fa 39 4194303) HT_ ?_
      refine pU_ 22 65 (fa 39 8388607) HT_ ?_
      refine pU_ 23 66 (fa 39 16777215) HT_ ?_
      refine pU_ 24 67 (fa 39 33554431) HT_ ?_
      refine pU_ 25 68 (fa 39 67108863) HT_ ?_
      refine pS_ 26 69 (fa 39 134217727) HT_ ?_
      refine pS_ 27 70 (fa 39 268435455) HT_ ?_
      refine pU_ 28 71 (fa 39 536870911) HT_ ?_
      refine pU_ 29 72 (fa 39 1073741823) HT_ ?_
      refine pU_ 30 73 (fa 39 2147483647) HT_ ?_
      refine pU_ 31 74 (fa 39 4294967295) HT_ ?_
      refine pU_ 32 75 (fa 39 8589934591) HT_ ?_
      refine pU_ 33 76 (fa 39 17179869183) HT_ ?_
      refine pU_ 34 77 (fa 39 34359738367) HT_ ?_
      refine pU_ 35 78 (fa 39 68719476735) HT_ ?_
      refine pU_ 36 79 (fa 39 137438953471) HT_ ?_
      refine pS_ 37 80 (fa 39 274877906943) HT_ ?_
      refine pS_ 38 8 (fa 39 549755813887) HT_ ?_
      refine done_ (done_of HT_.out (by kernel_rfl)) ?_
      try go_wp2
      go_ret
      exact ⟨by first | rfl | (simp [errW_none, errW_some] <;> rfl) | (simp [*, errW_none, errW_some] <;> rfl), bl2 HB GE508 GE509⟩
    ·
     rw [if_neg c30] at H
     have c30b0 : (t516 == t517) = false := by simpa using c30
     (try (have c30b1 : decide (t516 = t517) = false := by simpa using c30))
     (try (have c30b2 : (t516 == t517) = false := by simpa using c30))
     (try (have c30b3 : ¬ (t516 = t517) := by simpa using c30))
     clear c30
     obtain rfl := Option.some.inj H
     try go_wp2
     replace HO_9 := aZ_ (Kd.N_drew HO_9.out)
     replace HO_12 := aZ_ (Kd.R_drew HO_12.out)
     replace BK508 := aZ_ (blk_drew BK508.out)
     replace BK509 := aZ_ (blk_drew BK509.out)
     replace HB := aZ_ (below_drew1 HB.out)
     refine start_ (n := 39) (S := fun w' => w'.cell? ⟨gb508, 0, none⟩ = some (.string t504) ∧ w'.cell? ⟨gb508, 1, none⟩ = some (.string t505) ∧ w'.cell? ⟨gb509, 0, none⟩ = some (.string t506) ∧ w'.cell? ⟨gb509, 1, none⟩ = some (.string t507)) (ds := []) #[false, false, false, false, false, false, false, false, false, false, false, false, false, false, false, false, false, false, false, false, false, false, false, false, false, false, false, false, false, false, false, false, false, false, false, false, false, false, false] (by kernel_rfl) rfl rfl ⟨(blk_cell BK508.out 0).trans rfl, (blk_cell BK508.out 1).trans rfl, (blk_cell BK509.out 0).trans rfl, (blk_cell BK509.out 1).trans rfl⟩ (fun hHeld => ?_); refine with_tabW chancellaw9_AboveAsks.tab10 chancellaw9_AboveAsks.bits10 (fun HT_ HW_ => ?_)
     generalize wc.drew = w73 at HO_9 HO_12 BK508 BK509 HB hHeld ⊢
     refine pS_ 0 43 (fa 39 1) HT_ ?_
     refine pS_ 4 47 (fa 39 17) HT_ ?_
     refine tS_ 1 44 (fa 39 19) HT_ HW_ hHeld ?_
     refine tS_ 2 45 (fa 39 23) HT_ HW_ hHeld ?_
     refine tS_ 5 48 (fa 39 55) HT_ HW_ hHeld ?_
     refine tS_ 6 49 (fa 39 119) HT_ HW_ hHeld ?_
     refine one_ (i := 3) (N := some 46) #[true, true, true, true, true, true, true, false, false, false, false, false, false, false, false, false, false, false, false, false, false, false, false, false, false, false, false, false, false, false, false, false, false, false, false, false, false, false, false] rfl rfl (one_of HT_.out (by kernel_rfl)) (by decide) (fun K hK => ?_)
     refine goes_ Try.func16 (by kernel_rfl) rfl #[.slice AoG t501.length coG, .agg #[.string t504, .string t505], .agg #[.string t506, .string t507]] (by rfl) rfl rfl gm_ ?_
     with_reducible refine (above_In.calls _ _ t501 t504 t505 t506 t507 t516 _ ?side1 ?side2 A28.out).mono ?_
     (case side1 => repeat (first | exact (Kd.N_reads' HO_9.out).2.2 | (with_reducible refine Kd.C_alloc ?_ _) | (with_reducible refine Kd.C_drewN ?_ _) | (with_reducible refine Kd.C_drew ?_)))
     (case side2 => exact (Kd.N_reads' HO_9.out).2.1)
     rintro e w74 ⟨rfl, hb⟩
     refine ⟨_, rfl, ?_⟩
     replace HO_9 := aZ_ (Kd.N_below (kN HO_9) hb)
     replace HO_12 := aZ_ (Kd.R_below (kR HO_12) hb)
     replace BK508 := aZ_ (blk_below (g := gb508) (o := .cells #[.string t504, .string t505] 28 (0, 0)) (bk BK508) hb)
     replace BK509 := aZ_ (blk_below (g := gb509) (o := .cells #[.string t506, .string t507] 28 (0, 0)) (bk BK509) hb)
     replace HB := aZ_ (below_step (bl2 HB GE508 GE509) hb)
     (try clear hb)
     (try clear hb2)
     (try clear hk)
     (try clear hi)
     refine hK.out _ _ ⟨(blk_cell BK508.out 0).trans rfl, (blk_cell BK508.out 1).trans rfl, (blk_cell BK509.out 0).trans rfl, (blk_cell BK509.out 1).trans rfl⟩ (fun hHeld => ?_)
     clear hK K
     refine norm_ (a' := ?_) ?_ ?_
     rotate_left
     ·
      show Act.put _ (some 46) _ = _
      simp only [Act.put, List.setIfInBounds_toArray, List.set_cons_zero, List.set_cons_succ, i64_w, i32_w]
      rfl
     refine one_ (i := 7) (N := some 50) #[true, true, true, true, true, true, true, true, false, false, false, false, false, false, false, false, false, false, false, false, false, false, false, false, false, false, false, false, false, false, false, false, false, false, false, false, false, false, false] rfl rfl (one_of HT_.out (by kernel_rfl)) (by decide) (fun K hK => ?_)
     refine goes_ Try.func17 (by kernel_rfl) rfl #[.slice AoG t501.length coG, .agg #[.string t504, .string t505], .agg #[.string t506, .string t507]] (by rfl) rfl rfl gm_ ?_
     with_reducible refine (chancelref9_In.calls kj9 _ _ t501 t504 t505 t506 t507 t517 _ ?side1 ?side2 A29.out).mono ?_
     (case side1 => repeat (first | exact (Kd.N_reads' HO_9.out).2.2 | (with_reducible refine Kd.C_alloc ?_ _) | (with_reducible refine Kd.C_drewN ?_ _) | (with_reducible refine Kd.C_drew ?_)))
     (case side2 => exact (Kd.N_reads' HO_9.out).2.1)
     rintro e w75 ⟨rfl, hb⟩
     refine ⟨_, rfl, ?_⟩
     replace HO_9 := aZ_ (Kd.N_below (kN HO_9) hb)
     replace HO_12 := aZ_ (Kd.R_below (kR HO_12) hb)
     replace BK508 := aZ_ (blk_below (g := gb508) (o := .cells #[.string t504, .string t505] 28 (0, 0)) (bk BK508) hb)
     replace BK509 := aZ_ (blk_below (g := gb509) (o := .cells #[.string t506, .string t507] 28 (0, 0)) (bk BK509) hb)
     replace HB := aZ_ (below_step (bl2 HB GE508 GE509) hb)
     (try clear hb)
     (try clear hb2)
     (try clear hk)
     (try clear hi)
     refine hK.out _ _ ⟨(blk_cell BK508.out 0).trans rfl, (blk_cell BK508.out 1).trans rfl, (blk_cell BK509.out 0).trans rfl, (blk_cell BK509.out 1).trans rfl⟩ (fun hHeld => ?_)
     clear hK K
     refine norm_ (a' := ?_) ?_ ?_
     rotate_left
     ·
      show Act.put _ (some 50) _ = _
      simp only [Act.put, List.setIfInBounds_toArray, List.set_cons_zero, List.set_cons_succ, i64_w, i32_w]
      rfl
     refine pS_ 8 51 (fa 39 511) HT_ ?_
     refine pS_ 9 52 (fa 39 1023) HT_ ?_
     refine pU_ 10 53 (fa 39 2047) HT_ ?_
     refine pU_ 11 54 (fa 39 4095) HT_ ?_
     refine pU_ 12 55 (fa 39 8191) HT_ ?_
     refine pU_ 13 56 (fa 39 16383) HT_ ?_
     refine pU_ 14 57 (fa 39 32767) HT_ ?_
     refine pU_ 15 58 (fa 39 65535) HT_ ?_
     refine pU_ 16 59 (fa 39 131071) HT_ ?_
     refine pS_ 17 60 (fa 39 262143) HT_ ?_
     refine pS_ 18 61 (fa 39 524287) HT_ ?_
     refine pU_ 19 62 (fa 39 1048575) HT_ ?_
     refine pU_ 20 63 (fa 39 2097151) HT_ ?_
     refine pU_ 21 64 (fa 39 4194303) HT_ ?_
     refine pU_ 22 65 (fa 39 8388607) HT_ ?_
     refine pU_ 23 66 (fa 39 16777215) HT_ ?_
     refine pU_ 24 67 (fa 39 33554431) HT_ ?_
     refine pU_ 25 68 (fa 39 67108863) HT_ ?_
     refine pS_ 26 69 (fa 39 134217727) HT_ ?_
     refine pS_ 27 70 (fa 39 268435455) HT_ ?_
     refine pU_ 28 71 (fa 39 536870911) HT_ ?_
     refine pU_ 29 72 (fa 39 1073741823) HT_ ?_
     refine pU_ 30 73 (fa 39 2147483647) HT_ ?_
     refine pU_ 31 74 (fa 39 4294967295) HT_ ?_
     refine pU_ 32 75 (fa 39 8589934591) HT_ ?_
     refine pU_ 33 76 (fa 39 17179869183) HT_ ?_
     refine pU_ 34 77 (fa 39 34359738367) HT_ ?_
     refine pU_ 35 78 (fa 39 68719476735) HT_ ?_
     refine pU_ 36 79 (fa 39 137438953471) HT_ ?_
     refine pS_ 37 80 (fa 39 274877906943) HT_ ?_
     refine pS_ 38 8 (fa 39 549755813887) HT_ ?_
     refine done_ (done_of HT_.out (by kernel_rfl)) ?_
     try go_wp2
     go_ret
     exact ⟨by first | rfl | (simp [errW_none, errW_some] <;> rfl) | (simp [*, errW_none, errW_some] <;> rfl), bl2 HB GE508 GE509⟩
 ·
  exact absurd trivial c6
end Go.Proofs.Ytelibndkkokadaa.GB
