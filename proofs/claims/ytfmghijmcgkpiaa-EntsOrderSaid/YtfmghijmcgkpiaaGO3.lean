-- Written by wip/tools/gprint.py over the kit's printer.
import Derived.Test.YtfmghijmcgkpiaaGO0
import Derived.Test.YtfmghijmcgkpiaaGO2
import Derived.Test.YtfmghijmcgkpiaaSqz
namespace Go.Proofs.Ytfmghijmcgkpiaa.GO
open Go.RowKit Go.Proofs.YtfmghijmcgkpiaaW.PrintWords Go.Proofs.YtfmghijmcgkpiaaW.PrintLast Go.Proofs.Ytfmghijmcgkpiaa.HandV Go.Proofs.YtfmghijmcgkpiaaW.PrintMore
attribute [local go_sem] max2_int min2_int max_two min_two max_three min_three max_four min_four   -- for this text's walks alone
set_option linter.unusedVariables false
set_option linter.unusedSimpArgs false

/-! ### chancellaw3_Uid: function 65 -/
def chancellaw3_Uid.f (k : Nat) (a0_0 : Int) (a0_1 : Int) (l0_2 : List Int) (l0_3 : List (S25)) : Option (ByteArray × ByteArray) := if (Int.tmod a0_1 5) < 0 then ((some (([(⟨#[85, 115, 101, 114]⟩ : ByteArray), (⟨#[71, 114, 111, 117, 112]⟩ : ByteArray), (⟨#[68, 111, 99]⟩ : ByteArray), (⟨#[65, 99, 116, 105, 111, 110]⟩ : ByteArray), (⟨#[95, 120, 57]⟩ : ByteArray)] : List ByteArray) : List ByteArray)).bind fun y146 => (if 0 ≤ (wrap64 (-(Int.tmod a0_1 5))) then (if (wrap64 (-(Int.tmod a0_1 5))) < (y146.length : Int) then ((chancellaw3_id.f k l0_2).bind fun t150 => (some (rdOf ByteArray.empty y146 (wrap64 (-(Int.tmod a0_1 5))), t150))) else (none)) else (none))) else ((some (([(⟨#[85, 115, 101, 114]⟩ : ByteArray), (⟨#[71, 114, 111, 117, 112]⟩ : ByteArray), (⟨#[68, 111, 99]⟩ : ByteArray), (⟨#[65, 99, 116, 105, 111, 110]⟩ : ByteArray), (⟨#[95, 120, 57]⟩ : ByteArray)] : List ByteArray) : List ByteArray)).bind fun y151 => (if 0 ≤ (Int.tmod a0_1 5) then (if (Int.tmod a0_1 5) < (y151.length : Int) then ((chancellaw3_id.f k l0_2).bind fun t155 => (some (rdOf ByteArray.empty y151 (Int.tmod a0_1 5), t155))) else (none)) else (none)))
theorem chancellaw3_Uid.mono : ∀ a0 a1 a2 a3 k, LeO (chancellaw3_Uid.f k a0 a1 a2 a3) (chancellaw3_Uid.f (k + 1) a0 a1 a2 a3) := by
 intro a0 a1 a2 a3 k
 unfold chancellaw3_Uid.f
 repeat' first
   | (with_reducible exact chancellaw3_id.mono _ _)
   | (with_reducible exact LeO.refl _)
   | (with_reducible exact LeO.none _)
   | (with_reducible refine LeO.ite ?_ ?_)
   | (with_reducible refine LeO.bind ?_ (fun _ => ?_))
   | exact chancellaw3_id.mono _ _
   | exact LeO.none _
   | refine LeO.ite ?_ ?_
   | refine LeO.bind ?_ (fun _ => ?_)
def chancellaw3_Uid.T4 : Bool × List (List Nat × List Nat) := (true, [([], []), ([], []), ([0, 1], [0, 1]), ([2], [2]), ([], []), ([4], [4]), ([5], [5]), ([3, 6], [3, 6]), ([7, 6, 0, 1, 2, 3, 4, 5, 6, 7], [7])])
def chancellaw3_Uid.B4 : List Nat := [0, 0, 3, 7, 0, 16, 48, 127, 255]
theorem chancellaw3_Uid.tab4 : rtab .any (opsOf Try.f65 4) = chancellaw3_Uid.T4 := by kernel_rfl
theorem chancellaw3_Uid.bits4 : waitsOk chancellaw3_Uid.T4.2 chancellaw3_Uid.B4 = true := by kernel_rfl
set_option maxHeartbeats 8000000 in
set_option maxRecDepth 100000 in
theorem chancellaw3_Uid.calls (k : Nat) (a0_0 : Int) (a0_1 : Int) (A0_2 : Option Addr) (c0_2 : Nat) (l0_2 : List Int) (A0_3 : Option Addr) (c0_3 : Nat) (l0_3 : List (S25)) (r1 : ByteArray) (r2 : ByteArray) (w : World) (hr0_2 : Kd.C (Kd.int .i64) w A0_2 l0_2.length l0_2) (hc0_2 : l0_2.length ≤ c0_2) (hr0_3 : Kd.C k25 w A0_3 l0_3.length l0_3) (hc0_3 : l0_3.length ≤ c0_3) (h : chancellaw3_Uid.f k a0_0 a0_1 l0_2 l0_3 = some (r1, r2)) :
  Calls Try.prog 65 #[.agg #[.int .i64 a0_0, .int .i64 a0_1, .slice A0_2 l0_2.length c0_2, .slice A0_3 l0_3.length c0_3]] w fun e w' => e = .returned (.agg #[.string r1, .string r2]) ∧ Below w.heap.size w w' := by
 have hu25 := Try.underlying25
 have hu28 := Try.underlying28
 have HR0_2 := aZ_ hr0_2
 have HC0_2 := aZ_ hc0_2
 clear hr0_2 hc0_2
 have HR0_3 := aZ_ hr0_3
 have HC0_3 := aZ_ hc0_3
 clear hr0_3 hc0_3
 have HB := aZ_ (Below.refl w.heap.size w)
 have H : (if (Int.tmod a0_1 5) < 0 then ((some (([(⟨#[85, 115, 101, 114]⟩ : ByteArray), (⟨#[71, 114, 111, 117, 112]⟩ : ByteArray), (⟨#[68, 111, 99]⟩ : ByteArray), (⟨#[65, 99, 116, 105, 111, 110]⟩ : ByteArray), (⟨#[95, 120, 57]⟩ : ByteArray)] : List ByteArray) : List ByteArray)).bind fun y146 => (if 0 ≤ (wrap64 (-(Int.tmod a0_1 5))) then (if (wrap64 (-(Int.tmod a0_1 5))) < (y146.length : Int) then ((chancellaw3_id.f k l0_2).bind fun t150 => (some (rdOf ByteArray.empty y146 (wrap64 (-(Int.tmod a0_1 5))), t150))) else (none)) else (none))) else ((some (([(⟨#[85, 115, 101, 114]⟩ : ByteArray), (⟨#[71, 114, 111, 117, 112]⟩ : ByteArray), (⟨#[68, 111, 99]⟩ : ByteArray), (⟨#[65, 99, 116, 105, 111, 110]⟩ : ByteArray), (⟨#[95, 120, 57]⟩ : ByteArray)] : List ByteArray) : List ByteArray)).bind fun y151 => (if 0 ≤ (Int.tmod a0_1 5) then (if (Int.tmod a0_1 5) < (y151.length : Int) then ((chancellaw3_id.f k l0_2).bind fun t155 => (some (rdOf ByteArray.empty y151 (Int.tmod a0_1 5), t155))) else (none)) else (none)))) = some (r1, r2) := h
 clear h
 by_cases c2 : (Int.tmod a0_1 5) < 0
 ·
  rw [if_pos c2] at H
  have c2b0 : decide ((Int.tmod a0_1 5) < 0) = true := decide_eq_true c2
  clear c2
  obtain ⟨y146, hy146⟩ : ∃ y_ : List ByteArray, y_ = (([(⟨#[85, 115, 101, 114]⟩ : ByteArray), (⟨#[71, 114, 111, 117, 112]⟩ : ByteArray), (⟨#[68, 111, 99]⟩ : ByteArray), (⟨#[65, 99, 116, 105, 111, 110]⟩ : ByteArray), (⟨#[95, 120, 57]⟩ : ByteArray)] : List ByteArray)) := ⟨_, rfl⟩
  replace H : (if 0 ≤ (wrap64 (-(Int.tmod a0_1 5))) then (if (wrap64 (-(Int.tmod a0_1 5))) < (y146.length : Int) then ((chancellaw3_id.f k l0_2).bind fun t150 => (some (rdOf ByteArray.empty y146 (wrap64 (-(Int.tmod a0_1 5))), t150))) else (none)) else (none)) = some (r1, r2) := by first | (rw [hy146]; with_reducible exact H) | (have H2_ := (Option.bind_some _ _).symm.trans H; rw [hy146]; with_reducible exact H2_) | (have H2_ := (Option.bind_some _ _).symm.trans H; with_reducible exact H2_) | with_reducible exact H | (rw [hy146]; exact H) | exact H
  have Ny146 := aZ_ hy146
  clear hy146
  obtain ⟨ji3, hji3⟩ : ∃ j_ : Int, (wrap64 (-(Int.tmod a0_1 5))) = j_ := ⟨_, rfl⟩
  replace H : (if 0 ≤ (ji3) then (if (ji3) < (y146.length : Int) then ((chancellaw3_id.f k l0_2).bind fun t150 => (some (rdOf ByteArray.empty y146 (ji3), t150))) else (none)) else (none)) = some (r1, r2) := by first | (rw [hji3] at H; exact H) | (simp only [hji3] at H ⊢; exact H)
  have hji3w : (IntKind.i64.wrap (-(Int.tmod a0_1 5))) = ji3 := (i64_w _).trans hji3
  by_cases c4 : 0 ≤ (ji3)
  ·
   rw [if_pos c4] at H
   have c4b0 : decide (0 ≤ (ji3)) = true := decide_eq_true c4
   clear c4
   by_cases c5 : (ji3) < (y146.length : Int)
   ·
    rw [if_pos c5] at H
    have c5b0 : decide ((ji3) < (y146.length : Int)) = true := decide_eq_true c5
    clear c5
    replace H := Option.bind_eq_some_iff.mp H
    obtain ⟨t150, A60, H⟩ := H
    replace H : (some (rdOf ByteArray.empty y146 (ji3), t150)) = some (r1, r2) := H
    have A6 := aZ_ A60
    clear A60
    simp only [Option.some.injEq, Prod.mk.injEq] at H
    obtain ⟨rfl, rfl⟩ := H
    go_enter Try.func65, Try.ntmps65
    try go_wp2_with (first | ((with_reducible refine gate_dst (N := 1) rfl ?_); refine bxE 1 #[.int .i64 a0_0, .int .i64 a0_1, .slice A0_2 l0_2.length c0_2, .slice A0_3 l0_3.length c0_3] 25 ?_; intro gb144 hg w7 hbox hb; have BK144 := aZ_ (hbox); have GW144 := aZ_ ((by rw [hg]; exact (below_size (bl HB)) : w.heap.size ≤ gb144)); have GE144 := aZ_ ((by rw [hg]; exact (below_size (bl HB)) : w.heap.size ≤ gb144)); replace HB := aZ_ (below_step (bl HB) hb); clear hb hbox hg) | ((with_reducible refine gate_dst (N := 2) rfl ?_); refine bxE 2 #[.string (⟨#[]⟩ : ByteArray), .string (⟨#[]⟩ : ByteArray)] 28 ?_; intro gb145 hg w8 hbox hb; have BK145 := aZ_ (hbox); have GW145 := aZ_ ((by rw [hg]; exact (below_size (bl1 HB GE144)) : w.heap.size ≤ gb145)); have GE145 := aZ_ ((by rw [hg]; exact (below_size (bl1 HB GE144)) : w.heap.size ≤ gb145)); replace HB := aZ_ (below_step (bl1 HB GE144) hb); have NB144_145 := aZ_ ((by rw [hg]; exact Nat.ne_of_lt (blk_lt (g := gb144) (o := .cells #[.int .i64 a0_0, .int .i64 a0_1, .slice A0_2 l0_2.length c0_2, .slice A0_3 l0_3.length c0_3] 25 (0, 0)) (bk BK144)) : gb144 ≠ gb145)); have NB145_144 := aZ_ ((by rw [hg]; exact Nat.ne_of_gt (blk_lt (g := gb144) (o := .cells #[.int .i64 a0_0, .int .i64 a0_1, .slice A0_2 l0_2.length c0_2, .slice A0_3 l0_3.length c0_3] 25 (0, 0)) (bk BK144)) : gb145 ≠ gb144)); replace BK144 := aZ_ (blk_below (g := gb144) (o := .cells #[.int .i64 a0_0, .int .i64 a0_1, .slice A0_2 l0_2.length c0_2, .slice A0_3 l0_3.length c0_3] 25 (0, 0)) (bk BK144) hb); clear hb hbox hg; have hnb9 := NB144_145.out; have hnc9 := NB145_144.out; obtain ⟨hcz10_0, hcz10_1, hcz10_2, hcz10_3, hfz10_0, hfz10_1, hfz10_2, hfz10_3⟩ := bc4 BK144))
    have pi149 : (0 ≤ ((ji3) : Int)) = True := eq_true (of_decide_eq_true asm_)
    have qi149 : ((ji3) < (y146.length : Int)) = True := eq_true (of_decide_eq_true asm_)
    replace BK144 := aZ_ (blk_drew BK144.out)
    replace BK145 := aZ_ (blk_drew BK145.out)
    replace HB := aZ_ (below_drew1 HB.out)
    refine start_ (n := 9) (S := fun w' => True) (ds := []) #[false, false, false, false, false, false, false, false, false] (by kernel_rfl) rfl rfl trivial (fun hHeld => ?_); refine with_tabW chancellaw3_Uid.tab4 chancellaw3_Uid.bits4 (fun HT_ HW_ => ?_)
    generalize w8.drew = w11 at BK144 BK145 HB hHeld ⊢
    refine pS_ 1 12 (fa 9 2) HT_ ?_
    refine pS_ 4 15 (fa 9 18) HT_ ?_
    refine inv_at [0, 2, 3, 5, 6, 7, 8] (fun a0_ b a w' => ∃ (v147 : Value) (adz_v147 : Addr) (m2_ : Value), a = putSel a0_ b [(0, 11, v147), (2, 13, m2_), (3, 14, .string (rdOf ByteArray.empty y146 (ji3))), (5, 16, .slice A0_2 l0_2.length c0_2), (6, 17, .string t150), (7, 18, .agg #[.string (rdOf ByteArray.empty y146 (ji3)), .string t150])] ∧ (w'.heap[gb144]? = some (.cells #[.int .i64 a0_0, .int .i64 a0_1, .slice A0_2 l0_2.length c0_2, .slice A0_3 l0_3.length c0_3] 25 (0, 0))) ∧ (b 8 = false → w'.heap[gb145]? = some (.cells #[.string (⟨#[]⟩ : ByteArray), .string (⟨#[]⟩ : ByteArray)] 28 (0, 0))) ∧ (Below w.heap.size w w') ∧ (b 0 = true → Kd.R Kd.string 9 w' w.heap.size (fun _ => True) v147 y146) ∧ (b 0 = true → ∃ c_, (v147 : Value) = .slice (some adz_v147) y146.length c_) ∧ (b 8 = true → w'.heap[gb145]? = some (.cells #[.string (rdOf ByteArray.empty y146 (ji3)), .string t150] 28 (0, 0))) ∧ (b 2 = true → (m2_ : Value) = .pointer (some (adz_v147.add ((ji3)).toNat)))) HT_.out HW_.out (by kernel_rfl) (by kernel_rfl) ?_ ?_ ?_
    ·
     exact ⟨.bool false, ⟨0, 0, none⟩, .bool false, by simp only [putSel, Bool.false_eq_true, if_false], BK144.out, fun _ => BK145.out, HB.out, fun h_ => absurd h_ (by decide), fun h_ => absurd h_ (by decide), fun h_ => absurd h_ (by decide), fun h_ => absurd h_ (by decide)⟩
    ·
     skip
     clear BK144 BK145 HB
     refine steps_cons ?_ ?_
     ·
      rintro b a w' ⟨v147, adz_v147, m2_, ha, Q_BK144, Q_BK145, Q_HB, Q_HO148, Q_HA_HO148, Q_BK145_e8, Q_X2_⟩ hb_ hon hoff
      refine ⟨_, rfl, fun K hK => ?_⟩
      replace ha := aZ_ ha
      have BK144 := aZ_ Q_BK144
      have BK145 := aZ_ (Q_BK145 (hoff 8 (by kernel_rfl)))
      have HB := aZ_ Q_HB
      refine Kd.R_lit_step Kd.string _ 9 ?hg (N := 11) ?hd (xs := ([(⟨#[85, 115, 101, 114]⟩ : ByteArray), (⟨#[71, 114, 111, 117, 112]⟩ : ByteArray), (⟨#[68, 111, 99]⟩ : ByteArray), (⟨#[65, 99, 116, 105, 111, 110]⟩ : ByteArray), (⟨#[95, 120, 57]⟩ : ByteArray)] : List ByteArray)) (inner := [.string (⟨#[85, 115, 101, 114]⟩ : ByteArray), .string (⟨#[71, 114, 111, 117, 112]⟩ : ByteArray), .string (⟨#[68, 111, 99]⟩ : ByteArray), .string (⟨#[65, 99, 116, 105, 111, 110]⟩ : ByteArray), .string (⟨#[95, 120, 57]⟩ : ByteArray)]) (ok := fun _ => True) (okp := fun _ => True) ?hr ?hp (fun _ hk => hk) trivial (Below.refl _ _) (Nat.le_refl _) (by simp) ?_; (case hd => rfl); (case hg => rfl); (case hr => first | (go_simp; done) | (go_simp; rfl)); (case hp => exact (Reps.one (show Kd.M Kd.string _ _ _ (⟨#[85, 115, 101, 114]⟩ : ByteArray) [.string (⟨#[85, 115, 101, 114]⟩ : ByteArray)] from rfl) (Reps.one (show Kd.M Kd.string _ _ _ (⟨#[71, 114, 111, 117, 112]⟩ : ByteArray) [.string (⟨#[71, 114, 111, 117, 112]⟩ : ByteArray)] from rfl) (Reps.one (show Kd.M Kd.string _ _ _ (⟨#[68, 111, 99]⟩ : ByteArray) [.string (⟨#[68, 111, 99]⟩ : ByteArray)] from rfl) (Reps.one (show Kd.M Kd.string _ _ _ (⟨#[65, 99, 116, 105, 111, 110]⟩ : ByteArray) [.string (⟨#[65, 99, 116, 105, 111, 110]⟩ : ByteArray)] from rfl) (Reps.one (show Kd.M Kd.string _ _ _ (⟨#[95, 120, 57]⟩ : ByteArray) [.string (⟨#[95, 120, 57]⟩ : ByteArray)] from rfl) (Reps.none _ _)))))))
      intro v147 w12 ho13 hb hg_ hnew_
      clear hg_ hnew_
      (first | rw [← Ny146.out] at ho13 | (simp only [Int.reduceToNat] at ho13; rw [← Ny146.out] at ho13))
      have HO148 := aZ_ (Kd.R_lower ho13 (below_size (bl2 HB GE144 GE145)))
      replace BK144 := aZ_ (blk_below (g := gb144) (o := .cells #[.int .i64 a0_0, .int .i64 a0_1, .slice A0_2 l0_2.length c0_2, .slice A0_3 l0_3.length c0_3] 25 (0, 0)) (bk BK144) hb)
      replace BK145 := aZ_ (blk_below (g := gb145) (o := .cells #[.string (⟨#[]⟩ : ByteArray), .string (⟨#[]⟩ : ByteArray)] 28 (0, 0)) (bk BK145) hb)
      replace HB := aZ_ (below_step (bl2 HB GE144 GE145) hb)
      clear hb ho13
      obtain ⟨Ao14, co14, eo14⟩ := Kd.R_slice HO148.out
      subst eo14
      obtain ⟨ado14, fo14, _⟩ := Kd.at_string (Kd.R_reads' HO148.out).2.2 0 (by decide) (by rw [Ny146.out]; simp)
      cases fo14
      refine hK.out _ _ ⟨.slice (some ado14) y146.length co14, ado14, m2_, (by rw [ha.out]; exact putSel_upk 0 hb_ rfl rfl rfl), (bk BK144), fun _ => (bk BK145), (bl2 HB GE144 GE145), fun _ => (kR HO148), fun _ => ⟨_, rfl⟩, fun h0_ => absurd ((hoff 8 (by kernel_rfl)).symm.trans h0_) (by decide), fun h0_ => absurd ((hoff 2 (by kernel_rfl)).symm.trans h0_) (by decide)⟩
     refine steps_cons ?_ ?_
     ·
      rintro b a w' ⟨v147, adz_v147, m2_, ha, Q_BK144, Q_BK145, Q_HB, Q_HO148, Q_HA_HO148, Q_BK145_e8, Q_X2_⟩ hb_ hon hoff
      refine ⟨_, rfl, fun K hK => ?_⟩
      have e11 : a.tmps[11]? = some (v147) := by rw [ha]; exact putSel_on (e := (0, 11, v147)) 0 rfl rfl (hon 0 (by kernel_rfl)) rfl
      have e12 : a.tmps[12]? = some (.int .i64 ji3) := by rw [ha]; exact (putSel_off rfl).trans rfl
      replace ha := aZ_ ha
      have BK144 := aZ_ Q_BK144
      have BK145 := aZ_ (Q_BK145 (hoff 8 (by kernel_rfl)))
      have HB := aZ_ Q_HB
      have HO148 := aZ_ (Q_HO148 (hon 0 (by kernel_rfl)))
      have HA_HO148 := aZ_ (Q_HA_HO148 (hon 0 (by kernel_rfl)))
      obtain ⟨c_, hv_⟩ := HA_HO148.out
      rw [hv_] at e11
      refine value_ (w1 := w') (v := .pointer (some (adz_v147.add ((ji3)).toNat))) (by rfl) rfl ?_ ?_
      ·
       go_simp
       (try simp only [i64_w])
       try rfl
      refine hK.out _ _ ⟨v147, adz_v147, (.pointer (some (adz_v147.add ((ji3)).toNat))), (by rw [ha.out]; exact putSel_upk 1 hb_ rfl rfl rfl), Q_BK144, Q_BK145, Q_HB, Q_HO148, Q_HA_HO148, fun h0_ => absurd ((hoff 8 (by kernel_rfl)).symm.trans h0_) (by decide), fun _ => rfl⟩
     refine steps_cons ?_ ?_
     ·
      rintro b a w' ⟨v147, adz_v147, m2_, ha, Q_BK144, Q_BK145, Q_HB, Q_HO148, Q_HA_HO148, Q_BK145_e8, Q_X2_⟩ hb_ hon hoff
      refine ⟨_, rfl, fun K hK => ?_⟩
      have e13 : a.tmps[13]? = some (m2_) := by rw [ha]; exact putSel_on (e := (2, 13, m2_)) 1 rfl rfl (hon 2 (by kernel_rfl)) rfl
      rw [Q_X2_ (hon 2 (by kernel_rfl))] at e13
      replace ha := aZ_ ha
      have BK144 := aZ_ Q_BK144
      have BK145 := aZ_ (Q_BK145 (hoff 8 (by kernel_rfl)))
      have HB := aZ_ Q_HB
      have HO148 := aZ_ (Q_HO148 (hon 0 (by kernel_rfl)))
      have HA_HO148 := aZ_ (Q_HA_HO148 (hon 0 (by kernel_rfl)))
      obtain ⟨c_, hv_⟩ := HA_HO148.out
      have hF_ := HO148.out
      rw [hv_] at hF_
      obtain ⟨ad_, ea_, hx_⟩ := Kd.at_string (Kd.R_reads' hF_).2.2 (ji3) (of_eq_true pi149) (of_eq_true qi149)
      cases ea_
      refine value_ (w1 := w') (v := .string (rdOf ByteArray.empty y146 (ji3))) (by rfl) rfl ?_ ?_
      ·
       go_simp
       (try simp only [i64_w])
       try rfl
      refine hK.out _ _ ⟨v147, adz_v147, m2_, (by rw [ha.out]; exact putSel_upk 2 hb_ rfl rfl rfl), Q_BK144, Q_BK145, Q_HB, Q_HO148, Q_HA_HO148, fun h0_ => absurd ((hoff 8 (by kernel_rfl)).symm.trans h0_) (by decide), Q_X2_⟩
     refine steps_cons ?_ ?_
     ·
      rintro b a w' ⟨v147, adz_v147, m2_, ha, Q_BK144, Q_BK145, Q_HB, Q_HO148, Q_HA_HO148, Q_BK145_e8, Q_X2_⟩ hb_ hon hoff
      refine ⟨_, rfl, fun K hK => ?_⟩
      have e15 : a.tmps[15]? = some (.pointer (some ⟨gb144, 2, none⟩)) := by rw [ha]; exact (putSel_off rfl).trans rfl
      replace ha := aZ_ ha
      have BK144 := aZ_ Q_BK144
      have BK145 := aZ_ (Q_BK145 (hoff 8 (by kernel_rfl)))
      have HB := aZ_ Q_HB
      have hc0_ : w'.cell? ⟨gb144, 0, none⟩ = some (.int .i64 a0_0) := (blk_cell BK144.out 0).trans rfl
      have hc1_ : w'.cell? ⟨gb144, 1, none⟩ = some (.int .i64 a0_1) := (blk_cell BK144.out 1).trans rfl
      have hc2_ : w'.cell? ⟨gb144, 2, none⟩ = some (.slice A0_2 l0_2.length c0_2) := (blk_cell BK144.out 2).trans rfl
      have hc3_ : w'.cell? ⟨gb144, 3, none⟩ = some (.slice A0_3 l0_3.length c0_3) := (blk_cell BK144.out 3).trans rfl
      refine value_ (w1 := w') (v := .slice A0_2 l0_2.length c0_2) (by rfl) rfl ?_ ?_
      ·
       go_simp
       (try simp only [i64_w])
       try rfl
      refine hK.out _ _ ⟨v147, adz_v147, m2_, (by rw [ha.out]; exact putSel_upk 3 hb_ rfl rfl rfl), Q_BK144, Q_BK145, Q_HB, Q_HO148, Q_HA_HO148, fun h0_ => absurd ((hoff 8 (by kernel_rfl)).symm.trans h0_) (by decide), Q_X2_⟩
     refine steps_cons ?_ ?_
     ·
      rintro b a w' ⟨v147, adz_v147, m2_, ha, Q_BK144, Q_BK145, Q_HB, Q_HO148, Q_HA_HO148, Q_BK145_e8, Q_X2_⟩ hb_ hon hoff
      refine ⟨_, rfl, fun K hK => ?_⟩
      have e16 : a.tmps[16]? = some (.slice A0_2 l0_2.length c0_2) := by rw [ha]; exact putSel_on (e := (5, 16, .slice A0_2 l0_2.length c0_2)) 3 rfl rfl (hon 5 (by kernel_rfl)) rfl
      replace ha := aZ_ ha
      have BK144 := aZ_ Q_BK144
      have BK145 := aZ_ (Q_BK145 (hoff 8 (by kernel_rfl)))
      have HB := aZ_ Q_HB
      refine goes_ Try.func76 (by kernel_rfl) rfl #[.slice A0_2 l0_2.length c0_2] (by rfl) rfl rfl (by first | (simp only [List.map_toArray, List.map_cons, List.map_nil, Act.eval, Array.getD_eq_getD_getElem?, Option.getD_some, e16]; done) | (simp only [List.map_toArray, List.map_cons, List.map_nil, Act.eval, Array.getD_eq_getD_getElem?, Option.getD_some, e16]; rfl)) ?_
      with_reducible refine (chancellaw3_id.calls k _ _ l0_2 t150 _ ?side1 ?side2 A6.out).mono ?_
      (case side1 => exact kC (Kd.C_below HR0_2.out HB.out))
      (case side2 => exact HC0_2.out)
      rintro e w12 ⟨rfl, hb⟩
      refine ⟨_, rfl, ?_⟩
      have n0_ := aZ_ (blk_below (g := gb144) (o := .cells #[.int .i64 a0_0, .int .i64 a0_1, .slice A0_2 l0_2.length c0_2, .slice A0_3 l0_3.length c0_3] 25 (0, 0)) (bk BK144) hb)
      have n1_ := aZ_ (blk_below (g := gb145) (o := .cells #[.string (⟨#[]⟩ : ByteArray), .string (⟨#[]⟩ : ByteArray)] 28 (0, 0)) (bk BK145) hb)
      have n2_ := aZ_ (below_step (bl2 HB GE144 GE145) hb)
      have z_HO148 := fun (h0_ : b 0 = true) => (show Kd.R Kd.string 9 w12 w.heap.size (fun _ => True) v147 y146 from by first | exact (Kd.R_below (by (with_reducible repeat (first | apply Kd.R_alloc | apply Kd.R_drewN | apply Kd.R_drew)); exact (Q_HO148 h0_)) hb) | exact Kd.R_mono (Kd.R_below (by (with_reducible repeat (first | apply Kd.R_alloc | apply Kd.R_drewN | apply Kd.R_drew)); exact (Q_HO148 h0_)) hb) (fun _ h_ => by first | trivial | exact h_ | exact h_.1))
      clear BK144
      clear BK145
      clear HB
      have BK144 := n0_
      have BK145 := n1_
      have HB := n2_
      clear n0_ n1_ n2_
      (try clear hb)
      (try clear hb2)
      (try clear hk)
      (try clear hi)
      refine hK.out _ _ ⟨v147, adz_v147, m2_, (by rw [ha.out]; exact putSel_upk 4 hb_ rfl rfl rfl), (bk BK144), fun _ => (bk BK145), (bl2 HB GE144 GE145), z_HO148, Q_HA_HO148, fun h0_ => absurd ((hoff 8 (by kernel_rfl)).symm.trans h0_) (by decide), Q_X2_⟩
     refine steps_cons ?_ ?_
     ·
      rintro b a w' ⟨v147, adz_v147, m2_, ha, Q_BK144, Q_BK145, Q_HB, Q_HO148, Q_HA_HO148, Q_BK145_e8, Q_X2_⟩ hb_ hon hoff
      refine ⟨_, rfl, fun K hK => ?_⟩
      have e14 : a.tmps[14]? = some (.string (rdOf ByteArray.empty y146 (ji3))) := by rw [ha]; exact putSel_on (e := (3, 14, .string (rdOf ByteArray.empty y146 (ji3)))) 2 rfl rfl (hon 3 (by kernel_rfl)) rfl
      have e17 : a.tmps[17]? = some (.string t150) := by rw [ha]; exact putSel_on (e := (6, 17, .string t150)) 4 rfl rfl (hon 6 (by kernel_rfl)) rfl
      replace ha := aZ_ ha
      have BK144 := aZ_ Q_BK144
      have BK145 := aZ_ (Q_BK145 (hoff 8 (by kernel_rfl)))
      have HB := aZ_ Q_HB
      have HO148 := aZ_ (Q_HO148 (hon 0 (by kernel_rfl)))
      have HA_HO148 := aZ_ (Q_HA_HO148 (hon 0 (by kernel_rfl)))
      refine value_ (w1 := w') (v := .agg #[.string (rdOf ByteArray.empty y146 (ji3)), .string t150]) (by rfl) rfl ?_ ?_
      ·
       go_simp
       (try simp only [i64_w])
       try rfl
      refine hK.out _ _ ⟨v147, adz_v147, m2_, (by rw [ha.out]; exact putSel_upk 5 hb_ rfl rfl rfl), Q_BK144, Q_BK145, Q_HB, Q_HO148, Q_HA_HO148, fun h0_ => absurd ((hoff 8 (by kernel_rfl)).symm.trans h0_) (by decide), Q_X2_⟩
     refine steps_cons ?_ ?_
     ·
      rintro b a w' ⟨v147, adz_v147, m2_, ha, Q_BK144, Q_BK145, Q_HB, Q_HO148, Q_HA_HO148, Q_BK145_e8, Q_X2_⟩ hb_ hon hoff
      refine ⟨_, rfl, fun K hK => ?_⟩
      have e2 : a.tmps[2]? = some (.pointer (some ⟨gb145, 0, none⟩)) := by rw [ha]; exact (putSel_off rfl).trans rfl
      have e18 : a.tmps[18]? = some (.agg #[.string (rdOf ByteArray.empty y146 (ji3)), .string t150]) := by rw [ha]; exact putSel_on (e := (7, 18, .agg #[.string (rdOf ByteArray.empty y146 (ji3)), .string t150])) 5 rfl rfl (hon 7 (by kernel_rfl)) rfl
      replace ha := aZ_ ha
      have BK144 := aZ_ Q_BK144
      have BK145 := aZ_ (Q_BK145 hb_)
      have HB := aZ_ Q_HB
      have HO148 := aZ_ (Q_HO148 (hon 0 (by kernel_rfl)))
      have HA_HO148 := aZ_ (Q_HA_HO148 (hon 0 (by kernel_rfl)))
      obtain ⟨co17, eo17⟩ := HA_HO148.out
      clear HA_HO148
      subst eo17
      have hs18 : w'.cell? ⟨gb145, 0, none⟩ = some (.string (⟨#[]⟩ : ByteArray)) := (blk_cell BK145.out 0).trans rfl
      have hfs18 := blk_frozen BK145.out 0
      have hns18_0 := NB144_145.out
      have hms18_0 := NB145_144.out
      have hs19 : w'.cell? ⟨gb145, 1, none⟩ = some (.string (⟨#[]⟩ : ByteArray)) := (blk_cell BK145.out 1).trans rfl
      have hfs19 := blk_frozen BK145.out 1
      have hns19_0 := NB144_145.out
      have hms19_0 := NB145_144.out
      refine skip_ (w1 := ?_) (by rfl) rfl ?_ ?_
      rotate_left
      ·
       go_simp
       rfl
      refine hK.out _ _ ⟨.slice (some adz_v147) y146.length co17, adz_v147, m2_, (by rw [ha.out]; exact putSel_none (v := undef) rfl), (by (with_reducible repeat (first | refine blk_drewN ?_ _ | refine blk_drew ?_ | refine blk_alloc ?_ _)); refine blk_far ?_ NB144_145.out _; (with_reducible repeat (first | refine blk_drewN ?_ _ | refine blk_drew ?_ | refine blk_alloc ?_ _)); refine blk_far ?_ NB144_145.out _; (with_reducible repeat (first | refine blk_drewN ?_ _ | refine blk_drew ?_ | refine blk_alloc ?_ _)); exact BK144.out), fun h0_ => absurd ((up_self b 8).symm.trans h0_) (by decide), (bl2 HB GE144 GE145), fun _ => (by (with_reducible repeat (first | apply Kd.R_alloc | apply Kd.R_drewN | apply Kd.R_drew)); exact Kd.R_mono (Kd.R_far (p := ⟨gb145, 1, none⟩) (Kd.R_far (p := ⟨gb145, 0, none⟩) (Kd.R_types HO148.out BK145.out (by decide)) (fun _ hk => hk.2) (.string (rdOf ByteArray.empty y146 (ji3)))) (fun _ hk => hk.2) (.string t150)) (fun _ hk => trivial)), fun _ => ⟨_, rfl⟩, fun _ => (by (with_reducible repeat (first | refine blk_drewN ?_ _ | refine blk_drew ?_ | refine blk_alloc ?_ _)); refine blk_put (cs := #[.string (rdOf ByteArray.empty y146 (ji3)), .string (⟨#[]⟩ : ByteArray)]) ?_ 1 _ rfl; (with_reducible repeat (first | refine blk_drewN ?_ _ | refine blk_drew ?_ | refine blk_alloc ?_ _)); refine blk_put (cs := #[.string (⟨#[]⟩ : ByteArray), .string (⟨#[]⟩ : ByteArray)]) ?_ 0 _ rfl; (with_reducible repeat (first | refine blk_drewN ?_ _ | refine blk_drew ?_ | refine blk_alloc ?_ _)); exact BK145.out), Q_X2_⟩
     exact steps_nil
    rintro b a w18 hall ⟨v147, adz_v147, m2_, ha, Q_BK144, Q_BK145, Q_HB, Q_HO148, Q_HA_HO148, Q_BK145_e8, Q_X2_⟩
    clear BK144 BK145 HB
    have hb0_ := hall 0 (by kernel_rfl)
    have hb2_ := hall 2 (by kernel_rfl)
    have hb3_ := hall 3 (by kernel_rfl)
    have hb5_ := hall 5 (by kernel_rfl)
    have hb6_ := hall 6 (by kernel_rfl)
    have hb7_ := hall 7 (by kernel_rfl)
    have hb8_ := hall 8 (by kernel_rfl)
    subst ha
    obtain rfl := Q_X2_ hb2_
    simp only [putSel, hb0_, hb2_, hb3_, hb5_, hb6_, hb7_, hb8_, if_true, Act.put, List.setIfInBounds_toArray, List.set_cons_zero, List.set_cons_succ]
    have BK144 := aZ_ Q_BK144
    clear Q_BK144
    clear Q_BK145
    have HB := aZ_ Q_HB
    clear Q_HB
    have HO148 := aZ_ (Q_HO148 hb0_)
    clear Q_HO148
    have HA_HO148 := aZ_ (Q_HA_HO148 hb0_)
    clear Q_HA_HO148
    have BK145 := aZ_ (Q_BK145_e8 hb8_)
    clear Q_BK145_e8
    clear hall hb0_ hb2_ hb3_ hb5_ hb6_ hb7_ hb8_
    obtain ⟨co19, eo19⟩ := HA_HO148.out
    clear HA_HO148
    subst eo19
    try go_wp2
    refine bodyPost_ret (results_cell_row rfl _ _ gb145 28 #[.string (rdOf ByteArray.empty y146 (ji3)), .string t150] (0, 0) _ rfl (bk BK145) Try.underlying28 rfl (by kernel_rfl)) rfl ?_
    exact ⟨by first | rfl | (simp [errW_none, errW_some] <;> rfl) | (simp only [← hji3]; first | rfl | (simp [errW_none, errW_some] <;> rfl)) | (simp [*, errW_none, errW_some] <;> rfl), bl2 HB GE144 GE145⟩
   ·
    rw [if_neg c5] at H
    exact absurd H (by simp)
  ·
   rw [if_neg c4] at H
   exact absurd H (by simp)
 ·
  rw [if_neg c2] at H
  have c2b0 : decide ((Int.tmod a0_1 5) < 0) = false := decide_eq_false c2
  clear c2
  obtain ⟨y151, hy151⟩ : ∃ y_ : List ByteArray, y_ = (([(⟨#[85, 115, 101, 114]⟩ : ByteArray), (⟨#[71, 114, 111, 117, 112]⟩ : ByteArray), (⟨#[68, 111, 99]⟩ : ByteArray), (⟨#[65, 99, 116, 105, 111, 110]⟩ : ByteArray), (⟨#[95, 120, 57]⟩ : ByteArray)] : List ByteArray)) := ⟨_, rfl⟩
  replace H : (if 0 ≤ (Int.tmod a0_1 5) then (if (Int.tmod a0_1 5) < (y151.length : Int) then ((chancellaw3_id.f k l0_2).bind fun t155 => (some (rdOf ByteArray.empty y151 (Int.tmod a0_1 5), t155))) else (none)) else (none)) = some (r1, r2) := by first | (rw [hy151]; with_reducible exact H) | (have H2_ := (Option.bind_some _ _).symm.trans H; rw [hy151]; with_reducible exact H2_) | (have H2_ := (Option.bind_some _ _).symm.trans H; with_reducible exact H2_) | with_reducible exact H | (rw [hy151]; exact H) | exact H
  have Ny151 := aZ_ hy151
  clear hy151
  obtain ⟨ji20, hji20⟩ : ∃ j_ : Int, (Int.tmod a0_1 5) = j_ := ⟨_, rfl⟩
  replace H : (if 0 ≤ (ji20) then (if (ji20) < (y151.length : Int) then ((chancellaw3_id.f k l0_2).bind fun t155 => (some (rdOf ByteArray.empty y151 (ji20), t155))) else (none)) else (none)) = some (r1, r2) := by first | (rw [hji20] at H; exact H) | (simp only [hji20] at H ⊢; exact H)
  (try rw [hji20] at c2b0)
  by_cases c21 : 0 ≤ (ji20)
  ·
   rw [if_pos c21] at H
   have c21b0 : decide (0 ≤ (ji20)) = true := decide_eq_true c21
   clear c21
   by_cases c22 : (ji20) < (y151.length : Int)
   ·
    rw [if_pos c22] at H
    have c22b0 : decide ((ji20) < (y151.length : Int)) = true := decide_eq_true c22
    clear c22
    replace H := Option.bind_eq_some_iff.mp H
    obtain ⟨t155, A230, H⟩ := H
    replace H : (some (rdOf ByteArray.empty y151 (ji20), t155)) = some (r1, r2) := H
    have A23 := aZ_ A230
    clear A230
    simp only [Option.some.injEq, Prod.mk.injEq] at H
    obtain ⟨rfl, rfl⟩ := H
    go_enter Try.func65, Try.ntmps65
    try go_wp2_with (first | ((with_reducible refine gate_dst (N := 1) rfl ?_); refine bxE 1 #[.int .i64 a0_0, .int .i64 a0_1, .slice A0_2 l0_2.length c0_2, .slice A0_3 l0_3.length c0_3] 25 ?_; intro gb144 hg w24 hbox hb; have BK144 := aZ_ (hbox); have GW144 := aZ_ ((by rw [hg]; exact (below_size (bl HB)) : w.heap.size ≤ gb144)); have GE144 := aZ_ ((by rw [hg]; exact (below_size (bl HB)) : w.heap.size ≤ gb144)); replace HB := aZ_ (below_step (bl HB) hb); clear hb hbox hg) | ((with_reducible refine gate_dst (N := 2) rfl ?_); refine bxE 2 #[.string (⟨#[]⟩ : ByteArray), .string (⟨#[]⟩ : ByteArray)] 28 ?_; intro gb145 hg w25 hbox hb; have BK145 := aZ_ (hbox); have GW145 := aZ_ ((by rw [hg]; exact (below_size (bl1 HB GE144)) : w.heap.size ≤ gb145)); have GE145 := aZ_ ((by rw [hg]; exact (below_size (bl1 HB GE144)) : w.heap.size ≤ gb145)); replace HB := aZ_ (below_step (bl1 HB GE144) hb); have NB144_145 := aZ_ ((by rw [hg]; exact Nat.ne_of_lt (blk_lt (g := gb144) (o := .cells #[.int .i64 a0_0, .int .i64 a0_1, .slice A0_2 l0_2.length c0_2, .slice A0_3 l0_3.length c0_3] 25 (0, 0)) (bk BK144)) : gb144 ≠ gb145)); have NB145_144 := aZ_ ((by rw [hg]; exact Nat.ne_of_gt (blk_lt (g := gb144) (o := .cells #[.int .i64 a0_0, .int .i64 a0_1, .slice A0_2 l0_2.length c0_2, .slice A0_3 l0_3.length c0_3] 25 (0, 0)) (bk BK144)) : gb145 ≠ gb144)); replace BK144 := aZ_ (blk_below (g := gb144) (o := .cells #[.int .i64 a0_0, .int .i64 a0_1, .slice A0_2 l0_2.length c0_2, .slice A0_3 l0_3.length c0_3] 25 (0, 0)) (bk BK144) hb); clear hb hbox hg; have hnb26 := NB144_145.out; have hnc26 := NB145_144.out; obtain ⟨hcz27_0, hcz27_1, hcz27_2, hcz27_3, hfz27_0, hfz27_1, hfz27_2, hfz27_3⟩ := bc4 BK144))
    have pi154 : (0 ≤ ((ji20) : Int)) = True := eq_true (of_decide_eq_true asm_)
    have qi154 : ((ji20) < (y151.length : Int)) = True := eq_true (of_decide_eq_true asm_)
    replace BK144 := aZ_ (blk_drew BK144.out)
    replace BK145 := aZ_ (blk_drew BK145.out)
    replace HB := aZ_ (below_drew1 HB.out)
    refine start_ (n := 9) (S := fun w' => True) (ds := []) #[false, false, false, false, false, false, false, false, false] (by kernel_rfl) rfl rfl trivial (fun hHeld => ?_); refine with_tabW chancellaw3_Uid.tab4 chancellaw3_Uid.bits4 (fun HT_ HW_ => ?_)
    generalize w25.drew = w28 at BK144 BK145 HB hHeld ⊢
    refine pS_ 1 12 (fa 9 2) HT_ ?_
    refine pS_ 4 15 (fa 9 18) HT_ ?_
    refine inv_at [0, 2, 3, 5, 6, 7, 8] (fun a0_ b a w' => ∃ (v152 : Value) (adz_v152 : Addr) (m2_ : Value), a = putSel a0_ b [(0, 11, v152), (2, 13, m2_), (3, 14, .string (rdOf ByteArray.empty y151 (ji20))), (5, 16, .slice A0_2 l0_2.length c0_2), (6, 17, .string t155), (7, 18, .agg #[.string (rdOf ByteArray.empty y151 (ji20)), .string t155])] ∧ (w'.heap[gb144]? = some (.cells #[.int .i64 a0_0, .int .i64 a0_1, .slice A0_2 l0_2.length c0_2, .slice A0_3 l0_3.length c0_3] 25 (0, 0))) ∧ (b 8 = false → w'.heap[gb145]? = some (.cells #[.string (⟨#[]⟩ : ByteArray), .string (⟨#[]⟩ : ByteArray)] 28 (0, 0))) ∧ (Below w.heap.size w w') ∧ (b 0 = true → Kd.R Kd.string 9 w' w.heap.size (fun _ => True) v152 y151) ∧ (b 0 = true → ∃ c_, (v152 : Value) = .slice (some adz_v152) y151.length c_) ∧ (b 8 = true → w'.heap[gb145]? = some (.cells #[.string (rdOf ByteArray.empty y151 (ji20)), .string t155] 28 (0, 0))) ∧ (b 2 = true → (m2_ : Value) = .pointer (some (adz_v152.add ((ji20)).toNat)))) HT_.out HW_.out (by kernel_rfl) (by kernel_rfl) ?_ ?_ ?_
    ·
     exact ⟨.bool false, ⟨0, 0, none⟩, .bool false, by simp only [putSel, Bool.false_eq_true, if_false], BK144.out, fun _ => BK145.out, HB.out, fun h_ => absurd h_ (by decide), fun h_ => absurd h_ (by decide), fun h_ => absurd h_ (by decide), fun h_ => absurd h_ (by decide)⟩
    ·
     skip
     clear BK144 BK145 HB
     refine steps_cons ?_ ?_
     ·
      rintro b a w' ⟨v152, adz_v152, m2_, ha, Q_BK144, Q_BK145, Q_HB, Q_HO153, Q_HA_HO153, Q_BK145_e8, Q_X2_⟩ hb_ hon hoff
      refine ⟨_, rfl, fun K hK => ?_⟩
      replace ha := aZ_ ha
      have BK144 := aZ_ Q_BK144
      have BK145 := aZ_ (Q_BK145 (hoff 8 (by kernel_rfl)))
      have HB := aZ_ Q_HB
      refine Kd.R_lit_step Kd.string _ 9 ?hg (N := 11) ?hd (xs := ([(⟨#[85, 115, 101, 114]⟩ : ByteArray), (⟨#[71, 114, 111, 117, 112]⟩ : ByteArray), (⟨#[68, 111, 99]⟩ : ByteArray), (⟨#[65, 99, 116, 105, 111, 110]⟩ : ByteArray), (⟨#[95, 120, 57]⟩ : ByteArray)] : List ByteArray)) (inner := [.string (⟨#[85, 115, 101, 114]⟩ : ByteArray), .string (⟨#[71, 114, 111, 117, 112]⟩ : ByteArray), .string (⟨#[68, 111, 99]⟩ : ByteArray), .string (⟨#[65, 99, 116, 105, 111, 110]⟩ : ByteArray), .string (⟨#[95, 120, 57]⟩ : ByteArray)]) (ok := fun _ => True) (okp := fun _ => True) ?hr ?hp (fun _ hk => hk) trivial (Below.refl _ _) (Nat.le_refl _) (by simp) ?_; (case hd => rfl); (case hg => rfl); (case hr => first | (go_simp; done) | (go_simp; rfl)); (case hp => exact (Reps.one (show Kd.M Kd.string _ _ _ (⟨#[85, 115, 101, 114]⟩ : ByteArray) [.string (⟨#[85, 115, 101, 114]⟩ : ByteArray)] from rfl) (Reps.one (show Kd.M Kd.string _ _ _ (⟨#[71, 114, 111, 117, 112]⟩ : ByteArray) [.string (⟨#[71, 114, 111, 117, 112]⟩ : ByteArray)] from rfl) (Reps.one (show Kd.M Kd.string _ _ _ (⟨#[68, 111, 99]⟩ : ByteArray) [.string (⟨#[68, 111, 99]⟩ : ByteArray)] from rfl) (Reps.one (show Kd.M Kd.string _ _ _ (⟨#[65, 99, 116, 105, 111, 110]⟩ : ByteArray) [.string (⟨#[65, 99, 116, 105, 111, 110]⟩ : ByteArray)] from rfl) (Reps.one (show Kd.M Kd.string _ _ _ (⟨#[95, 120, 57]⟩ : ByteArray) [.string (⟨#[95, 120, 57]⟩ : ByteArray)] from rfl) (Reps.none _ _)))))))
      intro v152 w29 ho30 hb hg_ hnew_
      clear hg_ hnew_
      (first | rw [← Ny151.out] at ho30 | (simp only [Int.reduceToNat] at ho30; rw [← Ny151.out] at ho30))
      have HO153 := aZ_ (Kd.R_lower ho30 (below_size (bl2 HB GE144 GE145)))
      replace BK144 := aZ_ (blk_below (g := gb144) (o := .cells #[.int .i64 a0_0, .int .i64 a0_1, .slice A0_2 l0_2.length c0_2, .slice A0_3 l0_3.length c0_3] 25 (0, 0)) (bk BK144) hb)
      replace BK145 := aZ_ (blk_below (g := gb145) (o := .cells #[.string (⟨#[]⟩ : ByteArray), .string (⟨#[]⟩ : ByteArray)] 28 (0, 0)) (bk BK145) hb)
      replace HB := aZ_ (below_step (bl2 HB GE144 GE145) hb)
      clear hb ho30
      obtain ⟨Ao31, co31, eo31⟩ := Kd.R_slice HO153.out
      subst eo31
      obtain ⟨ado31, fo31, _⟩ := Kd.at_string (Kd.R_reads' HO153.out).2.2 0 (by decide) (by rw [Ny151.out]; simp)
      cases fo31
      refine hK.out _ _ ⟨.slice (some ado31) y151.length co31, ado31, m2_, (by rw [ha.out]; exact putSel_upk 0 hb_ rfl rfl rfl), (bk BK144), fun _ => (bk BK145), (bl2 HB GE144 GE145), fun _ => (kR HO153), fun _ => ⟨_, rfl⟩, fun h0_ => absurd ((hoff 8 (by kernel_rfl)).symm.trans h0_) (by decide), fun h0_ => absurd ((hoff 2 (by kernel_rfl)).symm.trans h0_) (by decide)⟩
     refine steps_cons ?_ ?_
     ·
      rintro b a w' ⟨v152, adz_v152, m2_, ha, Q_BK144, Q_BK145, Q_HB, Q_HO153, Q_HA_HO153, Q_BK145_e8, Q_X2_⟩ hb_ hon hoff
      refine ⟨_, rfl, fun K hK => ?_⟩
      have e11 : a.tmps[11]? = some (v152) := by rw [ha]; exact putSel_on (e := (0, 11, v152)) 0 rfl rfl (hon 0 (by kernel_rfl)) rfl
      have e12 : a.tmps[12]? = some (.int .i64 ji20) := by rw [ha]; exact (putSel_off rfl).trans rfl
      replace ha := aZ_ ha
      have BK144 := aZ_ Q_BK144
      have BK145 := aZ_ (Q_BK145 (hoff 8 (by kernel_rfl)))
      have HB := aZ_ Q_HB
      have HO153 := aZ_ (Q_HO153 (hon 0 (by kernel_rfl)))
      have HA_HO153 := aZ_ (Q_HA_HO153 (hon 0 (by kernel_rfl)))
      obtain ⟨c_, hv_⟩ := HA_HO153.out
      rw [hv_] at e11
      refine value_ (w1 := w') (v := .pointer (some (adz_v152.add ((ji20)).toNat))) (by rfl) rfl ?_ ?_
      ·
       go_simp
       (try simp only [i64_w])
       try rfl
      refine hK.out _ _ ⟨v152, adz_v152, (.pointer (some (adz_v152.add ((ji20)).toNat))), (by rw [ha.out]; exact putSel_upk 1 hb_ rfl rfl rfl), Q_BK144, Q_BK145, Q_HB, Q_HO153, Q_HA_HO153, fun h0_ => absurd ((hoff 8 (by kernel_rfl)).symm.trans h0_) (by decide), fun _ => rfl⟩
     refine steps_cons ?_ ?_
     ·
      rintro b a w' ⟨v152, adz_v152, m2_, ha, Q_BK144, Q_BK145, Q_HB, Q_HO153, Q_HA_HO153, Q_BK145_e8, Q_X2_⟩ hb_ hon hoff
      refine ⟨_, rfl, fun K hK => ?_⟩
      have e13 : a.tmps[13]? = some (m2_) := by rw [ha]; exact putSel_on (e := (2, 13, m2_)) 1 rfl rfl (hon 2 (by kernel_rfl)) rfl
      rw [Q_X2_ (hon 2 (by kernel_rfl))] at e13
      replace ha := aZ_ ha
      have BK144 := aZ_ Q_BK144
      have BK145 := aZ_ (Q_BK145 (hoff 8 (by kernel_rfl)))
      have HB := aZ_ Q_HB
      have HO153 := aZ_ (Q_HO153 (hon 0 (by kernel_rfl)))
      have HA_HO153 := aZ_ (Q_HA_HO153 (hon 0 (by kernel_rfl)))
      obtain ⟨c_, hv_⟩ := HA_HO153.out
      have hF_ := HO153.out
      rw [hv_] at hF_
      obtain ⟨ad_, ea_, hx_⟩ := Kd.at_string (Kd.R_reads' hF_).2.2 (ji20) (of_eq_true pi154) (of_eq_true qi154)
      cases ea_
      refine value_ (w1 := w') (v := .string (rdOf ByteArray.empty y151 (ji20))) (by rfl) rfl ?_ ?_
      ·
       go_simp
       (try simp only [i64_w])
       try rfl
      refine hK.out _ _ ⟨v152, adz_v152, m2_, (by rw [ha.out]; exact putSel_upk 2 hb_ rfl rfl rfl), Q_BK144, Q_BK145, Q_HB, Q_HO153, Q_HA_HO153, fun h0_ => absurd ((hoff 8 (by kernel_rfl)).symm.trans h0_) (by decide), Q_X2_⟩
     refine steps_cons ?_ ?_
     ·
      rintro b a w' ⟨v152, adz_v152, m2_, ha, Q_BK144, Q_BK145, Q_HB, Q_HO153, Q_HA_HO153, Q_BK145_e8, Q_X2_⟩ hb_ hon hoff
      refine ⟨_, rfl, fun K hK => ?_⟩
      have e15 : a.tmps[15]? = some (.pointer (some ⟨gb144, 2, none⟩)) := by rw [ha]; exact (putSel_off rfl).trans rfl
      replace ha := aZ_ ha
      have BK144 := aZ_ Q_BK144
      have BK145 := aZ_ (Q_BK145 (hoff 8 (by kernel_rfl)))
      have HB := aZ_ Q_HB
      have hc0_ : w'.cell? ⟨gb144, 0, none⟩ = some (.int .i64 a0_0) := (blk_cell BK144.out 0).trans rfl
      have hc1_ : w'.cell? ⟨gb144, 1, none⟩ = some (.int .i64 a0_1) := (blk_cell BK144.out 1).trans rfl
      have hc2_ : w'.cell? ⟨gb144, 2, none⟩ = some (.slice A0_2 l0_2.length c0_2) := (blk_cell BK144.out 2).trans rfl
      have hc3_ : w'.cell? ⟨gb144, 3, none⟩ = some (.slice A0_3 l0_3.length c0_3) := (blk_cell BK144.out 3).trans rfl
      refine value_ (w1 := w') (v := .slice A0_2 l0_2.length c0_2) (by rfl) rfl ?_ ?_
      ·
       go_simp
       (try simp only [i64_w])
       try rfl
      refine hK.out _ _ ⟨v152, adz_v152, m2_, (by rw [ha.out]; exact putSel_upk 3 hb_ rfl rfl rfl), Q_BK144, Q_BK145, Q_HB, Q_HO153, Q_HA_HO153, fun h0_ => absurd ((hoff 8 (by kernel_rfl)).symm.trans h0_) (by decide), Q_X2_⟩
     refine steps_cons ?_ ?_
     ·
      rintro b a w' ⟨v152, adz_v152, m2_, ha, Q_BK144, Q_BK145, Q_HB, Q_HO153, Q_HA_HO153, Q_BK145_e8, Q_X2_⟩ hb_ hon hoff
      refine ⟨_, rfl, fun K hK => ?_⟩
      have e16 : a.tmps[16]? = some (.slice A0_2 l0_2.length c0_2) := by rw [ha]; exact putSel_on (e := (5, 16, .slice A0_2 l0_2.length c0_2)) 3 rfl rfl (hon 5 (by kernel_rfl)) rfl
      replace ha := aZ_ ha
      have BK144 := aZ_ Q_BK144
      have BK145 := aZ_ (Q_BK145 (hoff 8 (by kernel_rfl)))
      have HB := aZ_ Q_HB
      refine goes_ Try.func76 (by kernel_rfl) rfl #[.slice A0_2 l0_2.length c0_2] (by rfl) rfl rfl (by first | (simp only [List.map_toArray, List.map_cons, List.map_nil, Act.eval, Array.getD_eq_getD_getElem?, Option.getD_some, e16]; done) | (simp only [List.map_toArray, List.map_cons, List.map_nil, Act.eval, Array.getD_eq_getD_getElem?, Option.getD_some, e16]; rfl)) ?_
      with_reducible refine (chancellaw3_id.calls k _ _ l0_2 t155 _ ?side1 ?side2 A23.out).mono ?_
      (case side1 => exact kC (Kd.C_below HR0_2.out HB.out))
      (case side2 => exact HC0_2.out)
      rintro e w29 ⟨rfl, hb⟩
      refine ⟨_, rfl, ?_⟩
      have n0_ := aZ_ (blk_below (g := gb144) (o := .cells #[.int .i64 a0_0, .int .i64 a0_1, .slice A0_2 l0_2.length c0_2, .slice A0_3 l0_3.length c0_3] 25 (0, 0)) (bk BK144) hb)
      have n1_ := aZ_ (blk_below (g := gb145) (o := .cells #[.string (⟨#[]⟩ : ByteArray), .string (⟨#[]⟩ : ByteArray)] 28 (0, 0)) (bk BK145) hb)
      have n2_ := aZ_ (below_step (bl2 HB GE144 GE145) hb)
      have z_HO153 := fun (h0_ : b 0 = true) => (show Kd.R Kd.string 9 w29 w.heap.size (fun _ => True) v152 y151 from by first | exact (Kd.R_below (by (with_reducible repeat (first | apply Kd.R_alloc | apply Kd.R_drewN | apply Kd.R_drew)); exact (Q_HO153 h0_)) hb) | exact Kd.R_mono (Kd.R_below (by (with_reducible repeat (first | apply Kd.R_alloc | apply Kd.R_drewN | apply Kd.R_drew)); exact (Q_HO153 h0_)) hb) (fun _ h_ => by first | trivial | exact h_ | exact h_.1))
      clear BK144
      clear BK145
      clear HB
      have BK144 := n0_
      have BK145 := n1_
      have HB := n2_
      clear n0_ n1_ n2_
      (try clear hb)
      (try clear hb2)
      (try clear hk)
      (try clear hi)
      refine hK.out _ _ ⟨v152, adz_v152, m2_, (by rw [ha.out]; exact putSel_upk 4 hb_ rfl rfl rfl), (bk BK144), fun _ => (bk BK145), (bl2 HB GE144 GE145), z_HO153, Q_HA_HO153, fun h0_ => absurd ((hoff 8 (by kernel_rfl)).symm.trans h0_) (by decide), Q_X2_⟩
     refine steps_cons ?_ ?_
     ·
      rintro b a w' ⟨v152, adz_v152, m2_, ha, Q_BK144, Q_BK145, Q_HB, Q_HO153, Q_HA_HO153, Q_BK145_e8, Q_X2_⟩ hb_ hon hoff
      refine ⟨_, rfl, fun K hK => ?_⟩
      have e14 : a.tmps[14]? = some (.string (rdOf ByteArray.empty y151 (ji20))) := by rw [ha]; exact putSel_on (e := (3, 14, .string (rdOf ByteArray.empty y151 (ji20)))) 2 rfl rfl (hon 3 (by kernel_rfl)) rfl
      have e17 : a.tmps[17]? = some (.string t155) := by rw [ha]; exact putSel_on (e := (6, 17, .string t155)) 4 rfl rfl (hon 6 (by kernel_rfl)) rfl
      replace ha := aZ_ ha
      have BK144 := aZ_ Q_BK144
      have BK145 := aZ_ (Q_BK145 (hoff 8 (by kernel_rfl)))
      have HB := aZ_ Q_HB
      have HO153 := aZ_ (Q_HO153 (hon 0 (by kernel_rfl)))
      have HA_HO153 := aZ_ (Q_HA_HO153 (hon 0 (by kernel_rfl)))
      refine value_ (w1 := w') (v := .agg #[.string (rdOf ByteArray.empty y151 (ji20)), .string t155]) (by rfl) rfl ?_ ?_
      ·
       go_simp
       (try simp only [i64_w])
       try rfl
      refine hK.out _ _ ⟨v152, adz_v152, m2_, (by rw [ha.out]; exact putSel_upk 5 hb_ rfl rfl rfl), Q_BK144, Q_BK145, Q_HB, Q_HO153, Q_HA_HO153, fun h0_ => absurd ((hoff 8 (by kernel_rfl)).symm.trans h0_) (by decide), Q_X2_⟩
     refine steps_cons ?_ ?_
     ·
      rintro b a w' ⟨v152, adz_v152, m2_, ha, Q_BK144, Q_BK145, Q_HB, Q_HO153, Q_HA_HO153, Q_BK145_e8, Q_X2_⟩ hb_ hon hoff
      refine ⟨_, rfl, fun K hK => ?_⟩
      have e2 : a.tmps[2]? = some (.pointer (some ⟨gb145, 0, none⟩)) := by rw [ha]; exact (putSel_off rfl).trans rfl
      have e18 : a.tmps[18]? = some (.agg #[.string (rdOf ByteArray.empty y151 (ji20)), .string t155]) := by rw [ha]; exact putSel_on (e := (7, 18, .agg #[.string (rdOf ByteArray.empty y151 (ji20)), .string t155])) 5 rfl rfl (hon 7 (by kernel_rfl)) rfl
      replace ha := aZ_ ha
      have BK144 := aZ_ Q_BK144
      have BK145 := aZ_ (Q_BK145 hb_)
      have HB := aZ_ Q_HB
      have HO153 := aZ_ (Q_HO153 (hon 0 (by kernel_rfl)))
      have HA_HO153 := aZ_ (Q_HA_HO153 (hon 0 (by kernel_rfl)))
      obtain ⟨co34, eo34⟩ := HA_HO153.out
      clear HA_HO153
      subst eo34
      have hs35 : w'.cell? ⟨gb145, 0, none⟩ = some (.string (⟨#[]⟩ : ByteArray)) := (blk_cell BK145.out 0).trans rfl
      have hfs35 := blk_frozen BK145.out 0
      have hns35_0 := NB144_145.out
      have hms35_0 := NB145_144.out
      have hs36 : w'.cell? ⟨gb145, 1, none⟩ = some (.string (⟨#[]⟩ : ByteArray)) := (blk_cell BK145.out 1).trans rfl
      have hfs36 := blk_frozen BK145.out 1
      have hns36_0 := NB144_145.out
      have hms36_0 := NB145_144.out
      refine skip_ (w1 := ?_) (by rfl) rfl ?_ ?_
      rotate_left
      ·
       go_simp
       rfl
      refine hK.out _ _ ⟨.slice (some adz_v152) y151.length co34, adz_v152, m2_, (by rw [ha.out]; exact putSel_none (v := undef) rfl), (by (with_reducible repeat (first | refine blk_drewN ?_ _ | refine blk_drew ?_ | refine blk_alloc ?_ _)); refine blk_far ?_ NB144_145.out _; (with_reducible repeat (first | refine blk_drewN ?_ _ | refine blk_drew ?_ | refine blk_alloc ?_ _)); refine blk_far ?_ NB144_145.out _; (with_reducible repeat (first | refine blk_drewN ?_ _ | refine blk_drew ?_ | refine blk_alloc ?_ _)); exact BK144.out), fun h0_ => absurd ((up_self b 8).symm.trans h0_) (by decide), (bl2 HB GE144 GE145), fun _ => (by (with_reducible repeat (first | apply Kd.R_alloc | apply Kd.R_drewN | apply Kd.R_drew)); exact Kd.R_mono (Kd.R_far (p := ⟨gb145, 1, none⟩) (Kd.R_far (p := ⟨gb145, 0, none⟩) (Kd.R_types HO153.out BK145.out (by decide)) (fun _ hk => hk.2) (.string (rdOf ByteArray.empty y151 (ji20)))) (fun _ hk => hk.2) (.string t155)) (fun _ hk => trivial)), fun _ => ⟨_, rfl⟩, fun _ => (by (with_reducible repeat (first | refine blk_drewN ?_ _ | refine blk_drew ?_ | refine blk_alloc ?_ _)); refine blk_put (cs := #[.string (rdOf ByteArray.empty y151 (ji20)), .string (⟨#[]⟩ : ByteArray)]) ?_ 1 _ rfl; (with_reducible repeat (first | refine blk_drewN ?_ _ | refine blk_drew ?_ | refine blk_alloc ?_ _)); refine blk_put (cs := #[.string (⟨#[]⟩ : ByteArray), .string (⟨#[]⟩ : ByteArray)]) ?_ 0 _ rfl; (with_reducible repeat (first | refine blk_drewN ?_ _ | refine blk_drew ?_ | refine blk_alloc ?_ _)); exact BK145.out), Q_X2_⟩
     exact steps_nil
    rintro b a w35 hall ⟨v152, adz_v152, m2_, ha, Q_BK144, Q_BK145, Q_HB, Q_HO153, Q_HA_HO153, Q_BK145_e8, Q_X2_⟩
    clear BK144 BK145 HB
    have hb0_ := hall 0 (by kernel_rfl)
    have hb2_ := hall 2 (by kernel_rfl)
    have hb3_ := hall 3 (by kernel_rfl)
    have hb5_ := hall 5 (by kernel_rfl)
    have hb6_ := hall 6 (by kernel_rfl)
    have hb7_ := hall 7 (by kernel_rfl)
    have hb8_ := hall 8 (by kernel_rfl)
    subst ha
    obtain rfl := Q_X2_ hb2_
    simp only [putSel, hb0_, hb2_, hb3_, hb5_, hb6_, hb7_, hb8_, if_true, Act.put, List.setIfInBounds_toArray, List.set_cons_zero, List.set_cons_succ]
    have BK144 := aZ_ Q_BK144
    clear Q_BK144
    clear Q_BK145
    have HB := aZ_ Q_HB
    clear Q_HB
    have HO153 := aZ_ (Q_HO153 hb0_)
    clear Q_HO153
    have HA_HO153 := aZ_ (Q_HA_HO153 hb0_)
    clear Q_HA_HO153
    have BK145 := aZ_ (Q_BK145_e8 hb8_)
    clear Q_BK145_e8
    clear hall hb0_ hb2_ hb3_ hb5_ hb6_ hb7_ hb8_
    obtain ⟨co36, eo36⟩ := HA_HO153.out
    clear HA_HO153
    subst eo36
    try go_wp2
    refine bodyPost_ret (results_cell_row rfl _ _ gb145 28 #[.string (rdOf ByteArray.empty y151 (ji20)), .string t155] (0, 0) _ rfl (bk BK145) Try.underlying28 rfl (by kernel_rfl)) rfl ?_
    exact ⟨by first | rfl | (simp [errW_none, errW_some] <;> rfl) | (simp only [← hji20]; first | rfl | (simp [errW_none, errW_some] <;> rfl)) | (simp [*, errW_none, errW_some] <;> rfl), bl2 HB GE144 GE145⟩
   ·
    rw [if_neg c22] at H
    exact absurd H (by simp)
  ·
   rw [if_neg c21] at H
   exact absurd H (by simp)

/-! ### chancellaw3_Plain: function 20 -/
def chancellaw3_Plain.f (k : Nat) (a0_0 : Int) (a0_1 : Int) (l0_2 : List Int) (l0_3 : List (S25)) (a1 : Int) : Option (Int × Bool × Int × ByteArray × ByteArray × ByteArray × (List (S31))) := if a1 = 1 then (some (1, ((Int.tmod a0_1 2) == 0), 0, (⟨#[]⟩ : ByteArray), (⟨#[]⟩ : ByteArray), (⟨#[]⟩ : ByteArray), ([] : List (S31)))) else (if a1 = 2 then (some (2, false, a0_1, (⟨#[]⟩ : ByteArray), (⟨#[]⟩ : ByteArray), (⟨#[]⟩ : ByteArray), ([] : List (S31)))) else (if a1 = 3 then ((chancellaw3_id.f k l0_2).bind fun t158 => (some (3, false, 0, t158, (⟨#[]⟩ : ByteArray), (⟨#[]⟩ : ByteArray), ([] : List (S31))))) else ((chancellaw3_Uid.f k a0_0 a0_1 l0_2 l0_3).bind fun bt159 => (some (4, false, 0, (⟨#[]⟩ : ByteArray), bt159.1, bt159.2, ([] : List (S31)))))))
theorem chancellaw3_Plain.mono : ∀ a0 a1 a2 a3 a4 k, LeO (chancellaw3_Plain.f k a0 a1 a2 a3 a4) (chancellaw3_Plain.f (k + 1) a0 a1 a2 a3 a4) := by
 intro a0 a1 a2 a3 a4 k
 unfold chancellaw3_Plain.f
 repeat' first
   | (with_reducible exact chancellaw3_Uid.mono _ _ _ _ _)
   | (with_reducible exact chancellaw3_id.mono _ _)
   | (with_reducible exact LeO.refl _)
   | (with_reducible exact LeO.none _)
   | (with_reducible refine LeO.ite ?_ ?_)
   | (with_reducible refine LeO.bind ?_ (fun _ => ?_))
   | exact chancellaw3_Uid.mono _ _ _ _ _
   | exact chancellaw3_id.mono _ _
   | exact LeO.none _
   | refine LeO.ite ?_ ?_
   | refine LeO.bind ?_ (fun _ => ?_)
set_option maxHeartbeats 8000000 in
set_option maxRecDepth 100000 in
theorem chancellaw3_Plain.calls (k : Nat) (a0_0 : Int) (a0_1 : Int) (A0_2 : Option Addr) (c0_2 : Nat) (l0_2 : List Int) (A0_3 : Option Addr) (c0_3 : Nat) (l0_3 : List (S25)) (a1 : Int) (r1 : Int) (r2 : Bool) (r3 : Int) (r4 : ByteArray) (r5 : ByteArray) (r6 : ByteArray) (r7 : List (S31)) (w : World) (hr0_2 : Kd.C (Kd.int .i64) w A0_2 l0_2.length l0_2) (hc0_2 : l0_2.length ≤ c0_2) (hr0_3 : Kd.C k25 w A0_3 l0_3.length l0_3) (hc0_3 : l0_3.length ≤ c0_3) (h : chancellaw3_Plain.f k a0_0 a0_1 l0_2 l0_3 a1 = some (r1, r2, r3, r4, r5, r6, r7)) :
  Calls Try.prog 20 #[.agg #[.int .i64 a0_0, .int .i64 a0_1, .slice A0_2 l0_2.length c0_2, .slice A0_3 l0_3.length c0_3], .int .i64 a1] w fun e w' => ∃ v6_ : Value, e = .returned (.agg #[.int .i64 r1, .bool r2, .int .i64 r3, .string r4, .string r5, .string r6, v6_]) ∧ Kd.R k31 31 w' w.heap.size (fun _ => True) v6_ r7 ∧ Below w.heap.size w w' := by
 have hu25 := Try.underlying25
 have hu31 := Try.underlying31
 have HR0_2 := aZ_ hr0_2
 have HC0_2 := aZ_ hc0_2
 clear hr0_2 hc0_2
 have HR0_3 := aZ_ hr0_3
 have HC0_3 := aZ_ hc0_3
 clear hr0_3 hc0_3
 have HB := aZ_ (Below.refl w.heap.size w)
 have H : (if a1 = 1 then (some (1, ((Int.tmod a0_1 2) == 0), 0, (⟨#[]⟩ : ByteArray), (⟨#[]⟩ : ByteArray), (⟨#[]⟩ : ByteArray), ([] : List (S31)))) else (if a1 = 2 then (some (2, false, a0_1, (⟨#[]⟩ : ByteArray), (⟨#[]⟩ : ByteArray), (⟨#[]⟩ : ByteArray), ([] : List (S31)))) else (if a1 = 3 then ((chancellaw3_id.f k l0_2).bind fun t158 => (some (3, false, 0, t158, (⟨#[]⟩ : ByteArray), (⟨#[]⟩ : ByteArray), ([] : List (S31))))) else ((chancellaw3_Uid.f k a0_0 a0_1 l0_2 l0_3).bind fun bt159 => (some (4, false, 0, (⟨#[]⟩ : ByteArray), bt159.1, bt159.2, ([] : List (S31)))))))) = some (r1, r2, r3, r4, r5, r6, r7) := h
 clear h
 by_cases c3 : a1 = 1
 ·
  rw [if_pos c3] at H
  have c3b0 : (a1 == 1) = true := beq_iff_eq.mpr c3
  have c3b1 : (a1 != 1) = false := bne_eq_false_iff_eq.mpr c3
  clear c3
  simp only [Option.some.injEq, Prod.mk.injEq] at H
  obtain ⟨rfl, rfl, rfl, rfl, rfl, rfl, rfl⟩ := H
  go_enter Try.func20, Try.ntmps20
  go_wp2_with (first | ((with_reducible refine gate_dst (N := 2) rfl ?_); refine bxE 2 #[.int .i64 a0_0, .int .i64 a0_1, .slice A0_2 l0_2.length c0_2, .slice A0_3 l0_3.length c0_3] 25 ?_; intro gb156 hg w4 hbox hb; have BK156 := aZ_ (hbox); have GW156 := aZ_ ((by rw [hg]; exact (below_size (bl HB)) : w.heap.size ≤ gb156)); have GE156 := aZ_ ((by rw [hg]; exact (below_size (bl HB)) : w.heap.size ≤ gb156)); replace HB := aZ_ (below_step (bl HB) hb); clear hb hbox hg) | ((with_reducible refine gate_dst (N := 4) rfl ?_); refine bxE 4 #[.int .i64 0, .bool false, .int .i64 0, .string (⟨#[]⟩ : ByteArray), .string (⟨#[]⟩ : ByteArray), .string (⟨#[]⟩ : ByteArray), .slice none 0 0] 31 ?_; intro gb157 hg w5 hbox hb; have BK157 := aZ_ (hbox); have GW157 := aZ_ ((by rw [hg]; exact (below_size (bl1 HB GE156)) : w.heap.size ≤ gb157)); have GE157 := aZ_ ((by rw [hg]; exact (below_size (bl1 HB GE156)) : w.heap.size ≤ gb157)); replace HB := aZ_ (below_step (bl1 HB GE156) hb); have NB156_157 := aZ_ ((by rw [hg]; exact Nat.ne_of_lt (blk_lt (g := gb156) (o := .cells #[.int .i64 a0_0, .int .i64 a0_1, .slice A0_2 l0_2.length c0_2, .slice A0_3 l0_3.length c0_3] 25 (0, 0)) (bk BK156)) : gb156 ≠ gb157)); have NB157_156 := aZ_ ((by rw [hg]; exact Nat.ne_of_gt (blk_lt (g := gb156) (o := .cells #[.int .i64 a0_0, .int .i64 a0_1, .slice A0_2 l0_2.length c0_2, .slice A0_3 l0_3.length c0_3] 25 (0, 0)) (bk BK156)) : gb157 ≠ gb156)); replace BK156 := aZ_ (blk_below (g := gb156) (o := .cells #[.int .i64 a0_0, .int .i64 a0_1, .slice A0_2 l0_2.length c0_2, .slice A0_3 l0_3.length c0_3] 25 (0, 0)) (bk BK156) hb); clear hb hbox hg; have hnb6 := NB156_157.out; have hnc6 := NB157_156.out; obtain ⟨hcz7_0, hcz7_1, hcz7_2, hcz7_3, hfz7_0, hfz7_1, hfz7_2, hfz7_3⟩ := bc4 BK156; obtain ⟨hcz8_0, hcz8_1, hcz8_2, hcz8_3, hcz8_4, hcz8_5, hcz8_6, hfz8_0, hfz8_1, hfz8_2, hfz8_3, hfz8_4, hfz8_5, hfz8_6⟩ := bc7 BK157))
  refine bodyPost_ret (results_cell_row rfl _ _ gb157 31 #[.int .i64 1, .bool ((Int.tmod a0_1 2) == 0), .int .i64 0, .string (⟨#[]⟩ : ByteArray), .string (⟨#[]⟩ : ByteArray), .string (⟨#[]⟩ : ByteArray), .slice none 0 0] (0, 0) _ rfl (by (with_reducible repeat (first | refine blk_drewN ?_ _ | refine blk_drew ?_ | refine blk_alloc ?_ _)); refine blk_put (cs := #[.int .i64 1, .bool ((Int.tmod a0_1 2) == 0), .int .i64 0, .string (⟨#[]⟩ : ByteArray), .string (⟨#[]⟩ : ByteArray), .string (⟨#[]⟩ : ByteArray), .slice none 0 0]) ?_ 6 _ rfl; (with_reducible repeat (first | refine blk_drewN ?_ _ | refine blk_drew ?_ | refine blk_alloc ?_ _)); refine blk_put (cs := #[.int .i64 1, .bool ((Int.tmod a0_1 2) == 0), .int .i64 0, .string (⟨#[]⟩ : ByteArray), .string (⟨#[]⟩ : ByteArray), .string (⟨#[]⟩ : ByteArray), .slice none 0 0]) ?_ 5 _ rfl; (with_reducible repeat (first | refine blk_drewN ?_ _ | refine blk_drew ?_ | refine blk_alloc ?_ _)); refine blk_put (cs := #[.int .i64 1, .bool ((Int.tmod a0_1 2) == 0), .int .i64 0, .string (⟨#[]⟩ : ByteArray), .string (⟨#[]⟩ : ByteArray), .string (⟨#[]⟩ : ByteArray), .slice none 0 0]) ?_ 4 _ rfl; (with_reducible repeat (first | refine blk_drewN ?_ _ | refine blk_drew ?_ | refine blk_alloc ?_ _)); refine blk_put (cs := #[.int .i64 1, .bool ((Int.tmod a0_1 2) == 0), .int .i64 0, .string (⟨#[]⟩ : ByteArray), .string (⟨#[]⟩ : ByteArray), .string (⟨#[]⟩ : ByteArray), .slice none 0 0]) ?_ 3 _ rfl; (with_reducible repeat (first | refine blk_drewN ?_ _ | refine blk_drew ?_ | refine blk_alloc ?_ _)); refine blk_put (cs := #[.int .i64 1, .bool ((Int.tmod a0_1 2) == 0), .int .i64 0, .string (⟨#[]⟩ : ByteArray), .string (⟨#[]⟩ : ByteArray), .string (⟨#[]⟩ : ByteArray), .slice none 0 0]) ?_ 2 _ rfl; (with_reducible repeat (first | refine blk_drewN ?_ _ | refine blk_drew ?_ | refine blk_alloc ?_ _)); refine blk_put (cs := #[.int .i64 1, .bool false, .int .i64 0, .string (⟨#[]⟩ : ByteArray), .string (⟨#[]⟩ : ByteArray), .string (⟨#[]⟩ : ByteArray), .slice none 0 0]) ?_ 1 _ rfl; (with_reducible repeat (first | refine blk_drewN ?_ _ | refine blk_drew ?_ | refine blk_alloc ?_ _)); refine blk_put (cs := #[.int .i64 0, .bool false, .int .i64 0, .string (⟨#[]⟩ : ByteArray), .string (⟨#[]⟩ : ByteArray), .string (⟨#[]⟩ : ByteArray), .slice none 0 0]) ?_ 0 _ rfl; (with_reducible repeat (first | refine blk_drewN ?_ _ | refine blk_drew ?_ | refine blk_alloc ?_ _)); exact BK157.out) Try.underlying31 rfl (by kernel_rfl)) rfl ?_
  exact ⟨_, by first | rfl | (simp [errW_none, errW_some] <;> rfl) | (simp [*, errW_none, errW_some] <;> rfl), by first | exact Kd.R_nil _ _ _ _ _ | exact Kd.N_nil _ _ _ _ _ | exact Kd.V_nil _ _ _ _ _ | exact Kd.Q_nil _ _ _ _ _ | exact Kd.S_nil _ _ _ _ _, bl2 HB GE156 GE157⟩
 ·
  rw [if_neg c3] at H
  have c3b0 : (a1 == 1) = false := beq_eq_false_iff_ne.mpr c3
  have c3b1 : (a1 != 1) = true := bne_iff_ne.mpr c3
  by_cases c9 : a1 = 2
  ·
   rw [if_pos c9] at H
   have c9b0 : (a1 == 2) = true := beq_iff_eq.mpr c9
   have c9b1 : (a1 != 2) = false := bne_eq_false_iff_eq.mpr c9
   clear c9
   simp only [Option.some.injEq, Prod.mk.injEq] at H
   obtain ⟨rfl, rfl, rfl, rfl, rfl, rfl, rfl⟩ := H
   go_enter Try.func20, Try.ntmps20
   go_wp2_with (first | ((with_reducible refine gate_dst (N := 2) rfl ?_); refine bxE 2 #[.int .i64 a0_0, .int .i64 a0_1, .slice A0_2 l0_2.length c0_2, .slice A0_3 l0_3.length c0_3] 25 ?_; intro gb156 hg w10 hbox hb; have BK156 := aZ_ (hbox); have GW156 := aZ_ ((by rw [hg]; exact (below_size (bl HB)) : w.heap.size ≤ gb156)); have GE156 := aZ_ ((by rw [hg]; exact (below_size (bl HB)) : w.heap.size ≤ gb156)); replace HB := aZ_ (below_step (bl HB) hb); clear hb hbox hg) | ((with_reducible refine gate_dst (N := 4) rfl ?_); refine bxE 4 #[.int .i64 0, .bool false, .int .i64 0, .string (⟨#[]⟩ : ByteArray), .string (⟨#[]⟩ : ByteArray), .string (⟨#[]⟩ : ByteArray), .slice none 0 0] 31 ?_; intro gb157 hg w11 hbox hb; have BK157 := aZ_ (hbox); have GW157 := aZ_ ((by rw [hg]; exact (below_size (bl1 HB GE156)) : w.heap.size ≤ gb157)); have GE157 := aZ_ ((by rw [hg]; exact (below_size (bl1 HB GE156)) : w.heap.size ≤ gb157)); replace HB := aZ_ (below_step (bl1 HB GE156) hb); have NB156_157 := aZ_ ((by rw [hg]; exact Nat.ne_of_lt (blk_lt (g := gb156) (o := .cells #[.int .i64 a0_0, .int .i64 a0_1, .slice A0_2 l0_2.length c0_2, .slice A0_3 l0_3.length c0_3] 25 (0, 0)) (bk BK156)) : gb156 ≠ gb157)); have NB157_156 := aZ_ ((by rw [hg]; exact Nat.ne_of_gt (blk_lt (g := gb156) (o := .cells #[.int .i64 a0_0, .int .i64 a0_1, .slice A0_2 l0_2.length c0_2, .slice A0_3 l0_3.length c0_3] 25 (0, 0)) (bk BK156)) : gb157 ≠ gb156)); replace BK156 := aZ_ (blk_below (g := gb156) (o := .cells #[.int .i64 a0_0, .int .i64 a0_1, .slice A0_2 l0_2.length c0_2, .slice A0_3 l0_3.length c0_3] 25 (0, 0)) (bk BK156) hb); clear hb hbox hg; have hnb12 := NB156_157.out; have hnc12 := NB157_156.out; obtain ⟨hcz13_0, hcz13_1, hcz13_2, hcz13_3, hfz13_0, hfz13_1, hfz13_2, hfz13_3⟩ := bc4 BK156; obtain ⟨hcz14_0, hcz14_1, hcz14_2, hcz14_3, hcz14_4, hcz14_5, hcz14_6, hfz14_0, hfz14_1, hfz14_2, hfz14_3, hfz14_4, hfz14_5, hfz14_6⟩ := bc7 BK157))
   refine bodyPost_ret (results_cell_row rfl _ _ gb157 31 #[.int .i64 2, .bool false, .int .i64 a0_1, .string (⟨#[]⟩ : ByteArray), .string (⟨#[]⟩ : ByteArray), .string (⟨#[]⟩ : ByteArray), .slice none 0 0] (0, 0) _ rfl (by (with_reducible repeat (first | refine blk_drewN ?_ _ | refine blk_drew ?_ | refine blk_alloc ?_ _)); refine blk_put (cs := #[.int .i64 2, .bool false, .int .i64 a0_1, .string (⟨#[]⟩ : ByteArray), .string (⟨#[]⟩ : ByteArray), .string (⟨#[]⟩ : ByteArray), .slice none 0 0]) ?_ 6 _ rfl; (with_reducible repeat (first | refine blk_drewN ?_ _ | refine blk_drew ?_ | refine blk_alloc ?_ _)); refine blk_put (cs := #[.int .i64 2, .bool false, .int .i64 a0_1, .string (⟨#[]⟩ : ByteArray), .string (⟨#[]⟩ : ByteArray), .string (⟨#[]⟩ : ByteArray), .slice none 0 0]) ?_ 5 _ rfl; (with_reducible repeat (first | refine blk_drewN ?_ _ | refine blk_drew ?_ | refine blk_alloc ?_ _)); refine blk_put (cs := #[.int .i64 2, .bool false, .int .i64 a0_1, .string (⟨#[]⟩ : ByteArray), .string (⟨#[]⟩ : ByteArray), .string (⟨#[]⟩ : ByteArray), .slice none 0 0]) ?_ 4 _ rfl; (with_reducible repeat (first | refine blk_drewN ?_ _ | refine blk_drew ?_ | refine blk_alloc ?_ _)); refine blk_put (cs := #[.int .i64 2, .bool false, .int .i64 a0_1, .string (⟨#[]⟩ : ByteArray), .string (⟨#[]⟩ : ByteArray), .string (⟨#[]⟩ : ByteArray), .slice none 0 0]) ?_ 3 _ rfl; (with_reducible repeat (first | refine blk_drewN ?_ _ | refine blk_drew ?_ | refine blk_alloc ?_ _)); refine blk_put (cs := #[.int .i64 2, .bool false, .int .i64 0, .string (⟨#[]⟩ : ByteArray), .string (⟨#[]⟩ : ByteArray), .string (⟨#[]⟩ : ByteArray), .slice none 0 0]) ?_ 2 _ rfl; (with_reducible repeat (first | refine blk_drewN ?_ _ | refine blk_drew ?_ | refine blk_alloc ?_ _)); refine blk_put (cs := #[.int .i64 2, .bool false, .int .i64 0, .string (⟨#[]⟩ : ByteArray), .string (⟨#[]⟩ : ByteArray), .string (⟨#[]⟩ : ByteArray), .slice none 0 0]) ?_ 1 _ rfl; (with_reducible repeat (first | refine blk_drewN ?_ _ | refine blk_drew ?_ | refine blk_alloc ?_ _)); refine blk_put (cs := #[.int .i64 0, .bool false, .int .i64 0, .string (⟨#[]⟩ : ByteArray), .string (⟨#[]⟩ : ByteArray), .string (⟨#[]⟩ : ByteArray), .slice none 0 0]) ?_ 0 _ rfl; (with_reducible repeat (first | refine blk_drewN ?_ _ | refine blk_drew ?_ | refine blk_alloc ?_ _)); exact BK157.out) Try.underlying31 rfl (by kernel_rfl)) rfl ?_
   exact ⟨_, by first | rfl | (simp [errW_none, errW_some] <;> rfl) | (simp [*, errW_none, errW_some] <;> rfl), by first | exact Kd.R_nil _ _ _ _ _ | exact Kd.N_nil _ _ _ _ _ | exact Kd.V_nil _ _ _ _ _ | exact Kd.Q_nil _ _ _ _ _ | exact Kd.S_nil _ _ _ _ _, bl2 HB GE156 GE157⟩
  ·
   rw [if_neg c9] at H
   have c9b0 : (a1 == 2) = false := beq_eq_false_iff_ne.mpr c9
   have c9b1 : (a1 != 2) = true := bne_iff_ne.mpr c9
   by_cases c15 : a1 = 3
   ·
    rw [if_pos c15] at H
    have c15b0 : (a1 == 3) = true := beq_iff_eq.mpr c15
    have c15b1 : (a1 != 3) = false := bne_eq_false_iff_eq.mpr c15
    clear c15
    replace H := Option.bind_eq_some_iff.mp H
    obtain ⟨t158, A160, H⟩ := H
    replace H : (some (3, false, 0, t158, (⟨#[]⟩ : ByteArray), (⟨#[]⟩ : ByteArray), ([] : List (S31)))) = some (r1, r2, r3, r4, r5, r6, r7) := H
    have A16 := aZ_ A160
    clear A160
    simp only [Option.some.injEq, Prod.mk.injEq] at H
    obtain ⟨rfl, rfl, rfl, rfl, rfl, rfl, rfl⟩ := H
    go_enter Try.func20, Try.ntmps20
    go_wp2_with (first | ((with_reducible refine gate_dst (N := 2) rfl ?_); refine bxE 2 #[.int .i64 a0_0, .int .i64 a0_1, .slice A0_2 l0_2.length c0_2, .slice A0_3 l0_3.length c0_3] 25 ?_; intro gb156 hg w17 hbox hb; have BK156 := aZ_ (hbox); have GW156 := aZ_ ((by rw [hg]; exact (below_size (bl HB)) : w.heap.size ≤ gb156)); have GE156 := aZ_ ((by rw [hg]; exact (below_size (bl HB)) : w.heap.size ≤ gb156)); replace HB := aZ_ (below_step (bl HB) hb); clear hb hbox hg) | ((with_reducible refine gate_dst (N := 4) rfl ?_); refine bxE 4 #[.int .i64 0, .bool false, .int .i64 0, .string (⟨#[]⟩ : ByteArray), .string (⟨#[]⟩ : ByteArray), .string (⟨#[]⟩ : ByteArray), .slice none 0 0] 31 ?_; intro gb157 hg w18 hbox hb; have BK157 := aZ_ (hbox); have GW157 := aZ_ ((by rw [hg]; exact (below_size (bl1 HB GE156)) : w.heap.size ≤ gb157)); have GE157 := aZ_ ((by rw [hg]; exact (below_size (bl1 HB GE156)) : w.heap.size ≤ gb157)); replace HB := aZ_ (below_step (bl1 HB GE156) hb); have NB156_157 := aZ_ ((by rw [hg]; exact Nat.ne_of_lt (blk_lt (g := gb156) (o := .cells #[.int .i64 a0_0, .int .i64 a0_1, .slice A0_2 l0_2.length c0_2, .slice A0_3 l0_3.length c0_3] 25 (0, 0)) (bk BK156)) : gb156 ≠ gb157)); have NB157_156 := aZ_ ((by rw [hg]; exact Nat.ne_of_gt (blk_lt (g := gb156) (o := .cells #[.int .i64 a0_0, .int .i64 a0_1, .slice A0_2 l0_2.length c0_2, .slice A0_3 l0_3.length c0_3] 25 (0, 0)) (bk BK156)) : gb157 ≠ gb156)); replace BK156 := aZ_ (blk_below (g := gb156) (o := .cells #[.int .i64 a0_0, .int .i64 a0_1, .slice A0_2 l0_2.length c0_2, .slice A0_3 l0_3.length c0_3] 25 (0, 0)) (bk BK156) hb); clear hb hbox hg; have hnb19 := NB156_157.out; have hnc19 := NB157_156.out; obtain ⟨hcz20_0, hcz20_1, hcz20_2, hcz20_3, hfz20_0, hfz20_1, hfz20_2, hfz20_3⟩ := bc4 BK156) | ((with_reducible refine gate_callee (f := 76) rfl ?_); refine goesL_ (some 22) rfl rfl Try.func76 (by kernel_rfl) rfl #[.slice A0_2 l0_2.length c0_2] rfl gm_ ?_; (with_reducible refine (chancellaw3_id.calls k _ _ l0_2 t158 _ ?side1 ?side2 A16.out).mono ?_); (case side1 => exact kC (Kd.C_below HR0_2.out HB.out)); (case side2 => exact HC0_2.out); rintro e w21 ⟨rfl, hb⟩; refine ⟨_, rfl, ?_⟩; replace BK156 := aZ_ (blk_below (g := gb156) (o := .cells #[.int .i64 a0_0, .int .i64 a0_1, .slice A0_2 l0_2.length c0_2, .slice A0_3 l0_3.length c0_3] 25 (0, 0)) (bk BK156) hb); replace BK157 := aZ_ (blk_below (g := gb157) (o := .cells #[.int .i64 0, .bool false, .int .i64 0, .string (⟨#[]⟩ : ByteArray), .string (⟨#[]⟩ : ByteArray), .string (⟨#[]⟩ : ByteArray), .slice none 0 0] 31 (0, 0)) (bk BK157) hb); replace HB := aZ_ (below_step (bl2 HB GE156 GE157) hb); (try clear hb); (try clear hb2); (try clear hk); (try clear hi); obtain ⟨hcz22_0, hcz22_1, hcz22_2, hcz22_3, hcz22_4, hcz22_5, hcz22_6, hfz22_0, hfz22_1, hfz22_2, hfz22_3, hfz22_4, hfz22_5, hfz22_6⟩ := bc7 BK157))
    refine bodyPost_ret (results_cell_row rfl _ _ gb157 31 #[.int .i64 3, .bool false, .int .i64 0, .string t158, .string (⟨#[]⟩ : ByteArray), .string (⟨#[]⟩ : ByteArray), .slice none 0 0] (0, 0) _ rfl (by (with_reducible repeat (first | refine blk_drewN ?_ _ | refine blk_drew ?_ | refine blk_alloc ?_ _)); refine blk_put (cs := #[.int .i64 3, .bool false, .int .i64 0, .string t158, .string (⟨#[]⟩ : ByteArray), .string (⟨#[]⟩ : ByteArray), .slice none 0 0]) ?_ 6 _ rfl; (with_reducible repeat (first | refine blk_drewN ?_ _ | refine blk_drew ?_ | refine blk_alloc ?_ _)); refine blk_put (cs := #[.int .i64 3, .bool false, .int .i64 0, .string t158, .string (⟨#[]⟩ : ByteArray), .string (⟨#[]⟩ : ByteArray), .slice none 0 0]) ?_ 5 _ rfl; (with_reducible repeat (first | refine blk_drewN ?_ _ | refine blk_drew ?_ | refine blk_alloc ?_ _)); refine blk_put (cs := #[.int .i64 3, .bool false, .int .i64 0, .string t158, .string (⟨#[]⟩ : ByteArray), .string (⟨#[]⟩ : ByteArray), .slice none 0 0]) ?_ 4 _ rfl; (with_reducible repeat (first | refine blk_drewN ?_ _ | refine blk_drew ?_ | refine blk_alloc ?_ _)); refine blk_put (cs := #[.int .i64 3, .bool false, .int .i64 0, .string (⟨#[]⟩ : ByteArray), .string (⟨#[]⟩ : ByteArray), .string (⟨#[]⟩ : ByteArray), .slice none 0 0]) ?_ 3 _ rfl; (with_reducible repeat (first | refine blk_drewN ?_ _ | refine blk_drew ?_ | refine blk_alloc ?_ _)); refine blk_put (cs := #[.int .i64 3, .bool false, .int .i64 0, .string (⟨#[]⟩ : ByteArray), .string (⟨#[]⟩ : ByteArray), .string (⟨#[]⟩ : ByteArray), .slice none 0 0]) ?_ 2 _ rfl; (with_reducible repeat (first | refine blk_drewN ?_ _ | refine blk_drew ?_ | refine blk_alloc ?_ _)); refine blk_put (cs := #[.int .i64 3, .bool false, .int .i64 0, .string (⟨#[]⟩ : ByteArray), .string (⟨#[]⟩ : ByteArray), .string (⟨#[]⟩ : ByteArray), .slice none 0 0]) ?_ 1 _ rfl; (with_reducible repeat (first | refine blk_drewN ?_ _ | refine blk_drew ?_ | refine blk_alloc ?_ _)); refine blk_put (cs := #[.int .i64 0, .bool false, .int .i64 0, .string (⟨#[]⟩ : ByteArray), .string (⟨#[]⟩ : ByteArray), .string (⟨#[]⟩ : ByteArray), .slice none 0 0]) ?_ 0 _ rfl; (with_reducible repeat (first | refine blk_drewN ?_ _ | refine blk_drew ?_ | refine blk_alloc ?_ _)); exact BK157.out) Try.underlying31 rfl (by kernel_rfl)) rfl ?_
    exact ⟨_, by first | rfl | (simp [errW_none, errW_some] <;> rfl) | (simp [*, errW_none, errW_some] <;> rfl), by first | exact Kd.R_nil _ _ _ _ _ | exact Kd.N_nil _ _ _ _ _ | exact Kd.V_nil _ _ _ _ _ | exact Kd.Q_nil _ _ _ _ _ | exact Kd.S_nil _ _ _ _ _, bl2 HB GE156 GE157⟩
   ·
    rw [if_neg c15] at H
    have c15b0 : (a1 == 3) = false := beq_eq_false_iff_ne.mpr c15
    have c15b1 : (a1 != 3) = true := bne_iff_ne.mpr c15
    replace H := Option.bind_eq_some_iff.mp H
    obtain ⟨⟨t159, t160⟩, A230, H⟩ := H
    replace H : (some (4, false, 0, (⟨#[]⟩ : ByteArray), t159, t160, ([] : List (S31)))) = some (r1, r2, r3, r4, r5, r6, r7) := H
    have A23 := aZ_ A230
    clear A230
    simp only [Option.some.injEq, Prod.mk.injEq] at H
    obtain ⟨rfl, rfl, rfl, rfl, rfl, rfl, rfl⟩ := H
    go_enter Try.func20, Try.ntmps20
    go_wp2_with (first | ((with_reducible refine gate_dst (N := 2) rfl ?_); refine bxE 2 #[.int .i64 a0_0, .int .i64 a0_1, .slice A0_2 l0_2.length c0_2, .slice A0_3 l0_3.length c0_3] 25 ?_; intro gb156 hg w24 hbox hb; have BK156 := aZ_ (hbox); have GW156 := aZ_ ((by rw [hg]; exact (below_size (bl HB)) : w.heap.size ≤ gb156)); have GE156 := aZ_ ((by rw [hg]; exact (below_size (bl HB)) : w.heap.size ≤ gb156)); replace HB := aZ_ (below_step (bl HB) hb); clear hb hbox hg) | ((with_reducible refine gate_dst (N := 4) rfl ?_); refine bxE 4 #[.int .i64 0, .bool false, .int .i64 0, .string (⟨#[]⟩ : ByteArray), .string (⟨#[]⟩ : ByteArray), .string (⟨#[]⟩ : ByteArray), .slice none 0 0] 31 ?_; intro gb157 hg w25 hbox hb; have BK157 := aZ_ (hbox); have GW157 := aZ_ ((by rw [hg]; exact (below_size (bl1 HB GE156)) : w.heap.size ≤ gb157)); have GE157 := aZ_ ((by rw [hg]; exact (below_size (bl1 HB GE156)) : w.heap.size ≤ gb157)); replace HB := aZ_ (below_step (bl1 HB GE156) hb); have NB156_157 := aZ_ ((by rw [hg]; exact Nat.ne_of_lt (blk_lt (g := gb156) (o := .cells #[.int .i64 a0_0, .int .i64 a0_1, .slice A0_2 l0_2.length c0_2, .slice A0_3 l0_3.length c0_3] 25 (0, 0)) (bk BK156)) : gb156 ≠ gb157)); have NB157_156 := aZ_ ((by rw [hg]; exact Nat.ne_of_gt (blk_lt (g := gb156) (o := .cells #[.int .i64 a0_0, .int .i64 a0_1, .slice A0_2 l0_2.length c0_2, .slice A0_3 l0_3.length c0_3] 25 (0, 0)) (bk BK156)) : gb157 ≠ gb156)); replace BK156 := aZ_ (blk_below (g := gb156) (o := .cells #[.int .i64 a0_0, .int .i64 a0_1, .slice A0_2 l0_2.length c0_2, .slice A0_3 l0_3.length c0_3] 25 (0, 0)) (bk BK156) hb); clear hb hbox hg; have hnb26 := NB156_157.out; have hnc26 := NB157_156.out; obtain ⟨hcz27_0, hcz27_1, hcz27_2, hcz27_3, hfz27_0, hfz27_1, hfz27_2, hfz27_3⟩ := bc4 BK156) | ((with_reducible refine gate_callee (f := 65) rfl ?_); refine goesL_ (some 25) rfl rfl Try.func65 (by kernel_rfl) rfl #[.agg #[.int .i64 a0_0, .int .i64 a0_1, .slice A0_2 l0_2.length c0_2, .slice A0_3 l0_3.length c0_3]] rfl gm_ ?_; (with_reducible refine (chancellaw3_Uid.calls k a0_0 a0_1 _ _ l0_2 _ _ l0_3 t159 t160 _ ?side1 ?side2 ?side3 ?side4 A23.out).mono ?_); (case side1 => exact kC (Kd.C_below HR0_2.out HB.out)); (case side2 => exact HC0_2.out); (case side3 => exact kC (Kd.C_below HR0_3.out HB.out)); (case side4 => exact HC0_3.out); rintro e w28 ⟨rfl, hb⟩; refine ⟨_, rfl, ?_⟩; replace BK156 := aZ_ (blk_below (g := gb156) (o := .cells #[.int .i64 a0_0, .int .i64 a0_1, .slice A0_2 l0_2.length c0_2, .slice A0_3 l0_3.length c0_3] 25 (0, 0)) (bk BK156) hb); replace BK157 := aZ_ (blk_below (g := gb157) (o := .cells #[.int .i64 0, .bool false, .int .i64 0, .string (⟨#[]⟩ : ByteArray), .string (⟨#[]⟩ : ByteArray), .string (⟨#[]⟩ : ByteArray), .slice none 0 0] 31 (0, 0)) (bk BK157) hb); replace HB := aZ_ (below_step (bl2 HB GE156 GE157) hb); (try clear hb); (try clear hb2); (try clear hk); (try clear hi); obtain ⟨hcz29_0, hcz29_1, hcz29_2, hcz29_3, hcz29_4, hcz29_5, hcz29_6, hfz29_0, hfz29_1, hfz29_2, hfz29_3, hfz29_4, hfz29_5, hfz29_6⟩ := bc7 BK157))
    refine bodyPost_ret (results_cell_row rfl _ _ gb157 31 #[.int .i64 4, .bool false, .int .i64 0, .string (⟨#[]⟩ : ByteArray), .string t159, .string t160, .slice none 0 0] (0, 0) _ rfl (by (with_reducible repeat (first | refine blk_drewN ?_ _ | refine blk_drew ?_ | refine blk_alloc ?_ _)); refine blk_put (cs := #[.int .i64 4, .bool false, .int .i64 0, .string (⟨#[]⟩ : ByteArray), .string t159, .string t160, .slice none 0 0]) ?_ 6 _ rfl; (with_reducible repeat (first | refine blk_drewN ?_ _ | refine blk_drew ?_ | refine blk_alloc ?_ _)); refine blk_put (cs := #[.int .i64 4, .bool false, .int .i64 0, .string (⟨#[]⟩ : ByteArray), .string t159, .string (⟨#[]⟩ : ByteArray), .slice none 0 0]) ?_ 5 _ rfl; (with_reducible repeat (first | refine blk_drewN ?_ _ | refine blk_drew ?_ | refine blk_alloc ?_ _)); refine blk_put (cs := #[.int .i64 4, .bool false, .int .i64 0, .string (⟨#[]⟩ : ByteArray), .string (⟨#[]⟩ : ByteArray), .string (⟨#[]⟩ : ByteArray), .slice none 0 0]) ?_ 4 _ rfl; (with_reducible repeat (first | refine blk_drewN ?_ _ | refine blk_drew ?_ | refine blk_alloc ?_ _)); refine blk_put (cs := #[.int .i64 4, .bool false, .int .i64 0, .string (⟨#[]⟩ : ByteArray), .string (⟨#[]⟩ : ByteArray), .string (⟨#[]⟩ : ByteArray), .slice none 0 0]) ?_ 3 _ rfl; (with_reducible repeat (first | refine blk_drewN ?_ _ | refine blk_drew ?_ | refine blk_alloc ?_ _)); refine blk_put (cs := #[.int .i64 4, .bool false, .int .i64 0, .string (⟨#[]⟩ : ByteArray), .string (⟨#[]⟩ : ByteArray), .string (⟨#[]⟩ : ByteArray), .slice none 0 0]) ?_ 2 _ rfl; (with_reducible repeat (first | refine blk_drewN ?_ _ | refine blk_drew ?_ | refine blk_alloc ?_ _)); refine blk_put (cs := #[.int .i64 4, .bool false, .int .i64 0, .string (⟨#[]⟩ : ByteArray), .string (⟨#[]⟩ : ByteArray), .string (⟨#[]⟩ : ByteArray), .slice none 0 0]) ?_ 1 _ rfl; (with_reducible repeat (first | refine blk_drewN ?_ _ | refine blk_drew ?_ | refine blk_alloc ?_ _)); refine blk_put (cs := #[.int .i64 0, .bool false, .int .i64 0, .string (⟨#[]⟩ : ByteArray), .string (⟨#[]⟩ : ByteArray), .string (⟨#[]⟩ : ByteArray), .slice none 0 0]) ?_ 0 _ rfl; (with_reducible repeat (first | refine blk_drewN ?_ _ | refine blk_drew ?_ | refine blk_alloc ?_ _)); exact BK157.out) Try.underlying31 rfl (by kernel_rfl)) rfl ?_
    exact ⟨_, by first | rfl | (simp [errW_none, errW_some] <;> rfl) | (simp [*, errW_none, errW_some] <;> rfl), by first | exact Kd.R_nil _ _ _ _ _ | exact Kd.N_nil _ _ _ _ _ | exact Kd.V_nil _ _ _ _ _ | exact Kd.Q_nil _ _ _ _ _ | exact Kd.S_nil _ _ _ _ _, bl2 HB GE156 GE157⟩

end Go.Proofs.Ytfmghijmcgkpiaa.GO
