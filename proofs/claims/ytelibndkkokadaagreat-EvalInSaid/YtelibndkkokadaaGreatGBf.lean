-- Written by wip/tools/gprint.py over the kit's printer.
import Derived.Test.YtelibndkkokadaaGreatGB0
import Derived.Test.YtelibndkkokadaaGreatEd
import Derived.Test.YtelibndkkokadaaGreatSqz
namespace Go.Proofs.YtelibndkkokadaaGreat.GB
open Go.RowKit Go.Proofs.YtelibndkkokadaaGreatW.PrintWords Go.Proofs.YtelibndkkokadaaGreatW.PrintLast Go.Proofs.YtelibndkkokadaaGreat.HandV Go.Proofs.YtelibndkkokadaaGreatW.PrintMore
attribute [local go_sem] max2_int min2_int max_two min_two max_three min_three max_four min_four   -- for this text's walks alone
set_option linter.unusedVariables false
set_option linter.unusedSimpArgs false

-- BREAK
/-! ### ents_at: function 82, given -/
/-- Where an entity stands, or would, and whether it does. -/
def ents_at.f (l0 : List S32) (a1_0 a1_1 : ByteArray) : Option (Int × Bool) :=
 if l0.length ≤ 1000 then some ((GT.atI l0 a1_0 a1_1 : Nat), GT.atB l0 a1_0 a1_1) else none
theorem ents_at.calls (A0 : Option Addr) (c0 : Nat) (l0 : List S32) (a1_0 : ByteArray) (a1_1 : ByteArray) (r1 : Int) (r2 : Bool) (w : World) (hr0 : Kd.C k32 w A0 l0.length l0) (hc0 : l0.length ≤ c0) (h : ents_at.f l0 a1_0 a1_1 = some (r1, r2)) :
  Calls Tryz.prog 82 #[.slice A0 l0.length c0, .agg #[.string a1_0, .string a1_1]] w fun e w' => e = .returned (.tuple #[.int .i64 r1, .bool r2]) ∧ Below w.heap.size w w' := by
 unfold ents_at.f at h
 by_cases hs : l0.length ≤ 1000
 ·
  rw [if_pos hs] at h
  simp only [Option.some.injEq, Prod.mk.injEq] at h
  obtain ⟨rfl, rfl⟩ := h
  exact GT.at_calls l0 hs a1_0 a1_1 A0 c0 w hc0 hr0
 ·
  rw [if_neg hs] at h
  exact absurd h (by simp)

/-! ### ents_twin: function 83, given -/
/-- The entity again, in memory of its own. -/
def ents_twin.f (a0_0 a0_1 : ByteArray) (l0_2 : List S28) (l0_3 : List S67) : Option (ByteArray × ByteArray × (List S28) × (List S67)) :=
 if GT.smE ⟨⟨a0_0, a0_1⟩, l0_2, l0_3⟩ = true then some (a0_0, a0_1, l0_2, l0_3) else none
theorem ents_twin.calls (a0_0 : ByteArray) (a0_1 : ByteArray) (A0_2 : Option Addr) (c0_2 : Nat) (l0_2 : List S28) (A0_3 : Option Addr) (c0_3 : Nat) (l0_3 : List S67) (r1 : ByteArray) (r2 : ByteArray) (r3 : List S28) (r4 : List S67) (w : World) (hr0_2 : Kd.C k28 w A0_2 l0_2.length l0_2) (hc0_2 : l0_2.length ≤ c0_2) (hr0_3 : Kd.C k67 w A0_3 l0_3.length l0_3) (hc0_3 : l0_3.length ≤ c0_3) (h : ents_twin.f a0_0 a0_1 l0_2 l0_3 = some (r1, r2, r3, r4)) :
  Calls Tryz.prog 83 #[.agg #[.string a0_0, .string a0_1, .slice A0_2 l0_2.length c0_2, .slice A0_3 l0_3.length c0_3]] w fun e w' => ∃ v2_ v3_ : Value, e = .returned (.agg #[.string r1, .string r2, v2_, v3_]) ∧ Kd.V k28 28 w' w.heap.size (fun k_ => w.heap.size ≤ k_) v2_ r3 ∧ Kd.V k67 67 w' w.heap.size (fun k_ => w.heap.size ≤ k_) v3_ r4 ∧ Below w.heap.size w w' := by
 unfold ents_twin.f at h
 by_cases hs : GT.smE ⟨⟨a0_0, a0_1⟩, l0_2, l0_3⟩ = true
 ·
  rw [if_pos hs] at h
  simp only [Option.some.injEq, Prod.mk.injEq] at h
  obtain ⟨rfl, rfl, rfl, rfl⟩ := h
  exact GT.twinE_sm ⟨⟨a0_0, a0_1⟩, l0_2, l0_3⟩ hs A0_2 c0_2 A0_3 c0_3 w hc0_2 hr0_2 hc0_3 hr0_3
 ·
  rw [if_neg hs] at h
  exact absurd h (by simp)

/-! ### ents_Find: function 67 -/
def ents_Find.f (l0 : List (S32)) (a1_0 : ByteArray) (a1_1 : ByteArray) : Option (ByteArray × ByteArray × (List (S28)) × (List (S67)) × Bool) := (ents_at.f l0 a1_0 a1_1).bind fun bt116 => (if bt116.2 = true then (if 0 ≤ bt116.1 then (if bt116.1 < (l0.length : Int) then ((ents_twin.f ((rd_T32 l0 bt116.1).f0.f0) ((rd_T32 l0 bt116.1).f0.f1) ((rd_T32 l0 bt116.1).f1) ((rd_T32 l0 bt116.1).f2)).bind fun bt119 => (some (bt119.1, bt119.2.1, bt119.2.2.1, bt119.2.2.2, true))) else (none)) else (none)) else (some ((⟨#[]⟩ : ByteArray), (⟨#[]⟩ : ByteArray), ([] : List (S28)), ([] : List (S67)), false)))
set_option maxHeartbeats 8000000 in
set_option maxRecDepth 100000 in
theorem ents_Find.calls (A0 : Option Addr) (c0 : Nat) (l0 : List (S32)) (a1_0 : ByteArray) (a1_1 : ByteArray) (r1 : ByteArray) (r2 : ByteArray) (r3 : List (S28)) (r4 : List (S67)) (r5 : Bool) (w : World) (hr0 : Kd.C k32 w A0 l0.length l0) (hc0 : l0.length ≤ c0) (h : ents_Find.f l0 a1_0 a1_1 = some (r1, r2, r3, r4, r5)) :
  Calls Tryz.prog 67 #[.slice A0 l0.length c0, .agg #[.string a1_0, .string a1_1]] w fun e w' => ∃ v2_ v3_ : Value, e = .returned (.tuple #[.agg #[.string r1, .string r2, v2_, v3_], .bool r5]) ∧ Kd.V k28 28 w' w.heap.size (fun k_ => (w.heap.size ≤ k_)) v2_ r3 ∧ Kd.V k67 67 w' w.heap.size (fun k_ => (w.heap.size ≤ k_)) v3_ r4 ∧ Below w.heap.size w w' := by
 have hu28 := Tryz.underlying28
 have hu32 := Tryz.underlying32
 have HR0 := aZ_ hr0
 have HC0 := aZ_ hc0
 clear hr0 hc0
 have HB := aZ_ (Below.refl w.heap.size w)
 have H : ((ents_at.f l0 a1_0 a1_1).bind fun bt116 => (if bt116.2 = true then (if 0 ≤ bt116.1 then (if bt116.1 < (l0.length : Int) then ((ents_twin.f ((rd_T32 l0 bt116.1).f0.f0) ((rd_T32 l0 bt116.1).f0.f1) ((rd_T32 l0 bt116.1).f1) ((rd_T32 l0 bt116.1).f2)).bind fun bt119 => (some (bt119.1, bt119.2.1, bt119.2.2.1, bt119.2.2.2, true))) else (none)) else (none)) else (some ((⟨#[]⟩ : ByteArray), (⟨#[]⟩ : ByteArray), ([] : List (S28)), ([] : List (S67)), false)))) = some (r1, r2, r3, r4, r5) := h
 clear h
 replace H := Option.bind_eq_some_iff.mp H
 obtain ⟨⟨t116, t117⟩, A30, H⟩ := H
 replace H : (if t117 = true then (if 0 ≤ t116 then (if t116 < (l0.length : Int) then ((ents_twin.f ((rd_T32 l0 t116).f0.f0) ((rd_T32 l0 t116).f0.f1) ((rd_T32 l0 t116).f1) ((rd_T32 l0 t116).f2)).bind fun bt119 => (some (bt119.1, bt119.2.1, bt119.2.2.1, bt119.2.2.2, true))) else (none)) else (none)) else (some ((⟨#[]⟩ : ByteArray), (⟨#[]⟩ : ByteArray), ([] : List (S28)), ([] : List (S67)), false))) = some (r1, r2, r3, r4, r5) := H
 have A3 := aZ_ A30
 clear A30
 by_cases c4 : t117 = true
 ·
  subst c4
  have H1 : (if 0 ≤ t116 then (if t116 < (l0.length : Int) then ((ents_twin.f ((rd_T32 l0 t116).f0.f0) ((rd_T32 l0 t116).f0.f1) ((rd_T32 l0 t116).f1) ((rd_T32 l0 t116).f2)).bind fun bt119 => (some (bt119.1, bt119.2.1, bt119.2.2.1, bt119.2.2.2, true))) else (none)) else (none)) = some (r1, r2, r3, r4, r5) := by rw [if_pos rfl] at H; exact H
  clear H
  have H := H1
  clear H1
  by_cases c5 : 0 ≤ t116
  ·
   rw [if_pos c5] at H
   have c5b0 : decide (0 ≤ t116) = true := decide_eq_true c5
   clear c5
   by_cases c6 : t116 < (l0.length : Int)
   ·
    rw [if_pos c6] at H
    have c6b0 : decide (t116 < (l0.length : Int)) = true := decide_eq_true c6
    clear c6
    replace H := Option.bind_eq_some_iff.mp H
    obtain ⟨⟨t119, t120, t121, t124⟩, A70, H⟩ := H
    replace H : (some (t119, t120, t121, t124, true)) = some (r1, r2, r3, r4, r5) := H
    have A7 := aZ_ A70
    clear A70
    simp only [Option.some.injEq, Prod.mk.injEq] at H
    obtain ⟨rfl, rfl, rfl, rfl, rfl⟩ := H
    go_enter Tryz.func67, Tryz.ntmps67
    go_wp2_with (first | ((with_reducible refine gate_dst (N := 3) rfl ?_); refine bxE 3 #[.string a1_0, .string a1_1] 28 ?_; intro gb114 hg w8 hbox hb; have BK114 := aZ_ (hbox); have GW114 := aZ_ ((by rw [hg]; exact (below_size (bl HB)) : w.heap.size ≤ gb114)); have GE114 := aZ_ ((by rw [hg]; exact (below_size (bl HB)) : w.heap.size ≤ gb114)); replace HB := aZ_ (below_step (bl HB) hb); clear hb hbox hg) | ((with_reducible refine gate_dst (N := 4) rfl ?_); refine bxE 4 #[.string (⟨#[]⟩ : ByteArray), .string (⟨#[]⟩ : ByteArray), .slice none 0 0, .slice none 0 0] 32 ?_; intro gb115 hg w9 hbox hb; have BK115 := aZ_ (hbox); have GW115 := aZ_ ((by rw [hg]; exact (below_size (bl1 HB GE114)) : w.heap.size ≤ gb115)); have GE115 := aZ_ ((by rw [hg]; exact (below_size (bl1 HB GE114)) : w.heap.size ≤ gb115)); replace HB := aZ_ (below_step (bl1 HB GE114) hb); have NB114_115 := aZ_ ((by rw [hg]; exact Nat.ne_of_lt (blk_lt (g := gb114) (o := .cells #[.string a1_0, .string a1_1] 28 (0, 0)) (bk BK114)) : gb114 ≠ gb115)); have NB115_114 := aZ_ ((by rw [hg]; exact Nat.ne_of_gt (blk_lt (g := gb114) (o := .cells #[.string a1_0, .string a1_1] 28 (0, 0)) (bk BK114)) : gb115 ≠ gb114)); replace BK114 := aZ_ (blk_below (g := gb114) (o := .cells #[.string a1_0, .string a1_1] 28 (0, 0)) (bk BK114) hb); clear hb hbox hg; have hnb10 := NB114_115.out; have hnc10 := NB115_114.out; obtain ⟨hcz11_0, hcz11_1, hfz11_0, hfz11_1⟩ := bc2 BK114) | ((with_reducible refine gate_callee (f := 82) rfl ?_); refine goesL_ (some 11) rfl rfl Tryz.func82 (by kernel_rfl) rfl #[.slice A0 l0.length c0, .agg #[.string a1_0, .string a1_1]] rfl gm_ ?_; (with_reducible refine (ents_at.calls _ _ l0 a1_0 a1_1 t116 true _ ?side1 ?side2 A3.out).mono ?_); (case side1 => exact kC (Kd.C_below HR0.out HB.out)); (case side2 => exact HC0.out); rintro e w12 ⟨rfl, hb⟩; refine ⟨_, rfl, ?_⟩; replace BK114 := aZ_ (blk_below (g := gb114) (o := .cells #[.string a1_0, .string a1_1] 28 (0, 0)) (bk BK114) hb); replace BK115 := aZ_ (blk_below (g := gb115) (o := .cells #[.string (⟨#[]⟩ : ByteArray), .string (⟨#[]⟩ : ByteArray), .slice none 0 0, .slice none 0 0] 32 (0, 0)) (bk BK115) hb); replace HB := aZ_ (below_step (bl2 HB GE114 GE115) hb); (try clear hb); (try clear hb2); (try clear hk); (try clear hi); have p118 : 0 ≤ (t116 : Int) := of_decide_eq_true asm_; have q118 : t116 < (l0.length : Int) := of_decide_eq_true asm_; obtain ⟨ad118, A118_2, c118_2, A118_3, c118_3, e118, hx118_0, hx118_1, hx118_2, hx118_3, hl118_2, hi118_2, hl118_3, hi118_3⟩ := at_T32 HR0.out t116 p118 q118; cases e118; replace hx118_0 := (hbc HB.out hx118_0 :); replace hx118_1 := (hbc HB.out hx118_1 :); replace hx118_2 := (hbc HB.out hx118_2 :); replace hx118_3 := (hbc HB.out hx118_3 :); have HR118_2 := aZ_ hi118_2; have HC118_2 := aZ_ hl118_2; clear hi118_2 hl118_2; have HR118_3 := aZ_ hi118_3; have HC118_3 := aZ_ hl118_3; clear hi118_3 hl118_3; replace p118 := eq_true p118; replace q118 := eq_true q118) | ((with_reducible refine gate_callee (f := 83) rfl ?_); refine goesL_ (some 21) rfl rfl Tryz.func83 (by kernel_rfl) rfl #[.agg #[.string ((rd_T32 l0 t116).f0.f0), .string ((rd_T32 l0 t116).f0.f1), .slice A118_2 ((rd_T32 l0 t116).f1).length c118_2, .slice A118_3 ((rd_T32 l0 t116).f2).length c118_3]] rfl gm_ ?_; (with_reducible refine (ents_twin.calls ((rd_T32 l0 t116).f0.f0) ((rd_T32 l0 t116).f0.f1) _ _ ((rd_T32 l0 t116).f1) _ _ ((rd_T32 l0 t116).f2) t119 t120 t121 t124 _ ?side1 ?side2 ?side3 ?side4 A7.out).mono ?_); (case side1 => exact kC (Kd.C_below HR118_2.out HB.out)); (case side2 => exact HC118_2.out); (case side3 => exact kC (Kd.C_below HR118_3.out HB.out)); (case side4 => exact HC118_3.out); rintro e w13 ⟨v122, v125, rfl, ho0, ho1, hb⟩; refine ⟨_, rfl, ?_⟩; have HO123 := aZ_ (Kd.V_lower (Kd.V_mono (ok' := fun k_ => (w.heap.size ≤ k_) ∧ k_ ≠ gb114 ∧ k_ ≠ gb115) ho0 (fun k_ hk_ => ⟨(Nat.le_trans (below_size (bl2 HB GE114 GE115)) hk_), (Kd.freshB (g := gb114) (o := .cells #[.string a1_0, .string a1_1] 28 (0, 0)) (bk BK114) k_ hk_), (Kd.freshB (g := gb115) (o := .cells #[.string (⟨#[]⟩ : ByteArray), .string (⟨#[]⟩ : ByteArray), .slice none 0 0, .slice none 0 0] 32 (0, 0)) (bk BK115) k_ hk_)⟩)) (below_size (bl2 HB GE114 GE115))); have HO126 := aZ_ (Kd.V_lower (Kd.V_mono (ok' := fun k_ => (w.heap.size ≤ k_) ∧ k_ ≠ gb114 ∧ k_ ≠ gb115) ho1 (fun k_ hk_ => ⟨(Nat.le_trans (below_size (bl2 HB GE114 GE115)) hk_), (Kd.freshB (g := gb114) (o := .cells #[.string a1_0, .string a1_1] 28 (0, 0)) (bk BK114) k_ hk_), (Kd.freshB (g := gb115) (o := .cells #[.string (⟨#[]⟩ : ByteArray), .string (⟨#[]⟩ : ByteArray), .slice none 0 0, .slice none 0 0] 32 (0, 0)) (bk BK115) k_ hk_)⟩)) (below_size (bl2 HB GE114 GE115))); replace BK114 := aZ_ (blk_below (g := gb114) (o := .cells #[.string a1_0, .string a1_1] 28 (0, 0)) (bk BK114) hb); replace BK115 := aZ_ (blk_below (g := gb115) (o := .cells #[.string (⟨#[]⟩ : ByteArray), .string (⟨#[]⟩ : ByteArray), .slice none 0 0, .slice none 0 0] 32 (0, 0)) (bk BK115) hb); replace HB := aZ_ (below_step (bl2 HB GE114 GE115) hb); (try clear hb); (try clear hb2); (try clear hk); (try clear hi); (try clear ho0); (try clear ho1); obtain ⟨hcz14_0, hcz14_1, hcz14_2, hcz14_3, hfz14_0, hfz14_1, hfz14_2, hfz14_3⟩ := bc4 BK115; obtain ⟨Ao15, co15, eo15⟩ := Kd.V_slice HO123.out; subst eo15; obtain ⟨Ao16, co16, eo16⟩ := Kd.V_slice HO126.out; subst eo16))
    refine bodyPost_ret (results_ct rfl _ _ gb115 32 #[.string t119, .string t120, .slice Ao15 t121.length co15, .slice Ao16 t124.length co16] (0, 0) _ rfl (by (with_reducible repeat (first | refine blk_drewN ?_ _ | refine blk_drew ?_ | refine blk_alloc ?_ _)); refine blk_put (cs := #[.string t119, .string t120, .slice Ao15 t121.length co15, .slice none 0 0]) ?_ 3 _ rfl; (with_reducible repeat (first | refine blk_drewN ?_ _ | refine blk_drew ?_ | refine blk_alloc ?_ _)); refine blk_put (cs := #[.string t119, .string t120, .slice none 0 0, .slice none 0 0]) ?_ 2 _ rfl; (with_reducible repeat (first | refine blk_drewN ?_ _ | refine blk_drew ?_ | refine blk_alloc ?_ _)); refine blk_put (cs := #[.string t119, .string (⟨#[]⟩ : ByteArray), .slice none 0 0, .slice none 0 0]) ?_ 1 _ rfl; (with_reducible repeat (first | refine blk_drewN ?_ _ | refine blk_drew ?_ | refine blk_alloc ?_ _)); refine blk_put (cs := #[.string (⟨#[]⟩ : ByteArray), .string (⟨#[]⟩ : ByteArray), .slice none 0 0, .slice none 0 0]) ?_ 0 _ rfl; (with_reducible repeat (first | refine blk_drewN ?_ _ | refine blk_drew ?_ | refine blk_alloc ?_ _)); exact BK115.out) Tryz.underlying32 rfl (by kernel_rfl)) rfl ?_
    exact ⟨_, _, by first | rfl | (simp [errW_none, errW_some] <;> rfl) | (simp [*, errW_none, errW_some] <;> rfl), by (with_reducible repeat (first | apply Kd.V_alloc | apply Kd.V_drewN | apply Kd.V_drew)); exact Kd.V_mono (Kd.V_far (p := ⟨gb115, 3, none⟩) (Kd.V_far (p := ⟨gb115, 2, none⟩) (Kd.V_far (p := ⟨gb115, 1, none⟩) (Kd.V_far (p := ⟨gb115, 0, none⟩) (Kd.V_mono HO123.out (fun k_ hk => (⟨hk, hk.2.2⟩ : _ ∧ k_ ≠ gb115))) (fun _ hk => hk.2) (.string t119)) (fun _ hk => hk.2) (.string t120)) (fun _ hk => hk.2) (.slice Ao15 t121.length co15)) (fun _ hk => hk.2) (.slice Ao16 t124.length co16)) (fun _ hk => hk.1.1), by (with_reducible repeat (first | apply Kd.V_alloc | apply Kd.V_drewN | apply Kd.V_drew)); exact Kd.V_mono (Kd.V_far (p := ⟨gb115, 3, none⟩) (Kd.V_far (p := ⟨gb115, 2, none⟩) (Kd.V_far (p := ⟨gb115, 1, none⟩) (Kd.V_far (p := ⟨gb115, 0, none⟩) (Kd.V_mono HO126.out (fun k_ hk => (⟨hk, hk.2.2⟩ : _ ∧ k_ ≠ gb115))) (fun _ hk => hk.2) (.string t119)) (fun _ hk => hk.2) (.string t120)) (fun _ hk => hk.2) (.slice Ao15 t121.length co15)) (fun _ hk => hk.2) (.slice Ao16 t124.length co16)) (fun _ hk => hk.1.1), bl2 HB GE114 GE115⟩
   ·
    rw [if_neg c6] at H
    exact absurd H (by simp)
  ·
   rw [if_neg c5] at H
   exact absurd H (by simp)
 ·
  replace c4 := Bool.eq_false_iff.mpr c4
  subst c4
  have H1 : (some ((⟨#[]⟩ : ByteArray), (⟨#[]⟩ : ByteArray), ([] : List (S28)), ([] : List (S67)), false)) = some (r1, r2, r3, r4, r5) := by rw [if_neg (show ¬ (false = true) by decide)] at H; exact H
  clear H
  have H := H1
  clear H1
  simp only [Option.some.injEq, Prod.mk.injEq] at H
  obtain ⟨rfl, rfl, rfl, rfl, rfl⟩ := H
  go_enter Tryz.func67, Tryz.ntmps67
  go_wp2_with (first | ((with_reducible refine gate_dst (N := 3) rfl ?_); refine bxE 3 #[.string a1_0, .string a1_1] 28 ?_; intro gb114 hg w17 hbox hb; have BK114 := aZ_ (hbox); have GW114 := aZ_ ((by rw [hg]; exact (below_size (bl HB)) : w.heap.size ≤ gb114)); have GE114 := aZ_ ((by rw [hg]; exact (below_size (bl HB)) : w.heap.size ≤ gb114)); replace HB := aZ_ (below_step (bl HB) hb); clear hb hbox hg) | ((with_reducible refine gate_dst (N := 4) rfl ?_); refine bxE 4 #[.string (⟨#[]⟩ : ByteArray), .string (⟨#[]⟩ : ByteArray), .slice none 0 0, .slice none 0 0] 32 ?_; intro gb115 hg w18 hbox hb; have BK115 := aZ_ (hbox); have GW115 := aZ_ ((by rw [hg]; exact (below_size (bl1 HB GE114)) : w.heap.size ≤ gb115)); have GE115 := aZ_ ((by rw [hg]; exact (below_size (bl1 HB GE114)) : w.heap.size ≤ gb115)); replace HB := aZ_ (below_step (bl1 HB GE114) hb); have NB114_115 := aZ_ ((by rw [hg]; exact Nat.ne_of_lt (blk_lt (g := gb114) (o := .cells #[.string a1_0, .string a1_1] 28 (0, 0)) (bk BK114)) : gb114 ≠ gb115)); have NB115_114 := aZ_ ((by rw [hg]; exact Nat.ne_of_gt (blk_lt (g := gb114) (o := .cells #[.string a1_0, .string a1_1] 28 (0, 0)) (bk BK114)) : gb115 ≠ gb114)); replace BK114 := aZ_ (blk_below (g := gb114) (o := .cells #[.string a1_0, .string a1_1] 28 (0, 0)) (bk BK114) hb); clear hb hbox hg; have hnb19 := NB114_115.out; have hnc19 := NB115_114.out; obtain ⟨hcz20_0, hcz20_1, hfz20_0, hfz20_1⟩ := bc2 BK114) | ((with_reducible refine gate_callee (f := 82) rfl ?_); refine goesL_ (some 11) rfl rfl Tryz.func82 (by kernel_rfl) rfl #[.slice A0 l0.length c0, .agg #[.string a1_0, .string a1_1]] rfl gm_ ?_; (with_reducible refine (ents_at.calls _ _ l0 a1_0 a1_1 t116 false _ ?side1 ?side2 A3.out).mono ?_); (case side1 => exact kC (Kd.C_below HR0.out HB.out)); (case side2 => exact HC0.out); rintro e w21 ⟨rfl, hb⟩; refine ⟨_, rfl, ?_⟩; replace BK114 := aZ_ (blk_below (g := gb114) (o := .cells #[.string a1_0, .string a1_1] 28 (0, 0)) (bk BK114) hb); replace BK115 := aZ_ (blk_below (g := gb115) (o := .cells #[.string (⟨#[]⟩ : ByteArray), .string (⟨#[]⟩ : ByteArray), .slice none 0 0, .slice none 0 0] 32 (0, 0)) (bk BK115) hb); replace HB := aZ_ (below_step (bl2 HB GE114 GE115) hb); (try clear hb); (try clear hb2); (try clear hk); (try clear hi); obtain ⟨hcz22_0, hcz22_1, hcz22_2, hcz22_3, hfz22_0, hfz22_1, hfz22_2, hfz22_3⟩ := bc4 BK115))
  refine bodyPost_ret (results_ct rfl _ _ gb115 32 #[.string (⟨#[]⟩ : ByteArray), .string (⟨#[]⟩ : ByteArray), .slice none 0 0, .slice none 0 0] (0, 0) _ rfl (by (with_reducible repeat (first | refine blk_drewN ?_ _ | refine blk_drew ?_ | refine blk_alloc ?_ _)); refine blk_put (cs := #[.string (⟨#[]⟩ : ByteArray), .string (⟨#[]⟩ : ByteArray), .slice none 0 0, .slice none 0 0]) ?_ 3 _ rfl; (with_reducible repeat (first | refine blk_drewN ?_ _ | refine blk_drew ?_ | refine blk_alloc ?_ _)); refine blk_put (cs := #[.string (⟨#[]⟩ : ByteArray), .string (⟨#[]⟩ : ByteArray), .slice none 0 0, .slice none 0 0]) ?_ 2 _ rfl; (with_reducible repeat (first | refine blk_drewN ?_ _ | refine blk_drew ?_ | refine blk_alloc ?_ _)); refine blk_put (cs := #[.string (⟨#[]⟩ : ByteArray), .string (⟨#[]⟩ : ByteArray), .slice none 0 0, .slice none 0 0]) ?_ 1 _ rfl; (with_reducible repeat (first | refine blk_drewN ?_ _ | refine blk_drew ?_ | refine blk_alloc ?_ _)); refine blk_put (cs := #[.string (⟨#[]⟩ : ByteArray), .string (⟨#[]⟩ : ByteArray), .slice none 0 0, .slice none 0 0]) ?_ 0 _ rfl; (with_reducible repeat (first | refine blk_drewN ?_ _ | refine blk_drew ?_ | refine blk_alloc ?_ _)); exact BK115.out) Tryz.underlying32 rfl (by kernel_rfl)) rfl ?_
  exact ⟨_, _, by first | rfl | (simp [errW_none, errW_some] <;> rfl) | (simp [*, errW_none, errW_some] <;> rfl), (by first | exact Kd.V_nil _ _ _ _ _ | exact Kd.R_V (by first | exact Kd.R_nil _ _ _ _ _ | exact Kd.N_nil _ _ _ _ _ | exact Kd.V_nil _ _ _ _ _ | exact Kd.Q_nil _ _ _ _ _ | exact Kd.S_nil _ _ _ _ _)), (by first | exact Kd.V_nil _ _ _ _ _ | exact Kd.R_V (by first | exact Kd.R_nil _ _ _ _ _ | exact Kd.N_nil _ _ _ _ _ | exact Kd.V_nil _ _ _ _ _ | exact Kd.Q_nil _ _ _ _ _ | exact Kd.S_nil _ _ _ _ _)), bl2 HB GE114 GE115⟩

end Go.Proofs.YtelibndkkokadaaGreat.GB
