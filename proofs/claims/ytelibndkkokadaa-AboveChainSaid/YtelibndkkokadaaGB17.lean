-- Written by wip/tools/gprint.py over the kit's printer.
import Derived.Test.YtelibndkkokadaaGB0
import Derived.Test.YtelibndkkokadaaJk
import Derived.Test.YtelibndkkokadaaGB15
import Derived.Test.YtelibndkkokadaaJb
import Derived.Test.YtelibndkkokadaaSqz
namespace Go.Proofs.Ytelibndkkokadaa.GB
open Go.RowKit Go.Proofs.YtelibndkkokadaaW.PrintWords Go.Proofs.YtelibndkkokadaaW.PrintLast Go.Proofs.Ytelibndkkokadaa.HandV Go.Proofs.YtelibndkkokadaaW.PrintMore
attribute [local go_sem] max2_int min2_int max_two min_two max_three min_three max_four min_four   -- for this text's walks alone
set_option linter.unusedVariables false
set_option linter.unusedSimpArgs false

attribute [local go_sem high] eqA28
-- BREAK
/-! ### above_Above: function 19, given -/
/-- All that is above one. -/
def above_Above.f (l0 : List S38) (a1_0 a1_1 : ByteArray) : Option (List S28) :=
 if GA.okL l0 = true ∧ GA.okU ⟨a1_0, a1_1⟩ = true then some (GA.aboveF l0 ⟨a1_0, a1_1⟩) else none
theorem above_Above.calls (A0 : Option Addr) (c0 : Nat) (l0 : List S38) (a1_0 : ByteArray) (a1_1 : ByteArray) (r : List S28) (w : World) (hr0 : Kd.C k38 w A0 l0.length l0) (hc0 : l0.length ≤ c0) (h : above_Above.f l0 a1_0 a1_1 = some r) :
  Calls Try.prog 19 #[.slice A0 l0.length c0, .agg #[.string a1_0, .string a1_1]] w fun e w' => ∃ v0_ : Value, e = .returned (v0_) ∧ Kd.V k28 28 w' w.heap.size (fun k_ => w.heap.size ≤ k_) v0_ r ∧ Below w.heap.size w w' := by
 unfold above_Above.f at h
 by_cases hs : GA.okL l0 = true ∧ GA.okU ⟨a1_0, a1_1⟩ = true
 ·
  rw [if_pos hs] at h
  obtain rfl := Option.some.inj h
  exact GA.above_calls0 l0 hs.1 ⟨a1_0, a1_1⟩ A0 c0 w hc0 hr0
 ·
  rw [if_neg hs] at h
  exact absurd h (by simp)

/-! ### above_Below: function 21 -/
def above_Below.l0 : Nat → List (S38) → List (S28) → List (S38) → Int → Int → ByteArray → ByteArray → Option ((List (S28)))
 | 0, _, _, _, _, _, _, _ => none
 | k + 1, x0, x5, x8, x9, x10, x480000, x480001 => if x10 < x9 then (if 0 ≤ x10 then (if x10 < (x8.length : Int) then (if (!((((rd_T38 x8 x10).f0.f0).toList) == x480000.toList) || (!((((rd_T38 x8 x10).f0.f1).toList) == x480001.toList))) = true then ((above_In.f x0 ((rd_T38 x8 x10).f0.f0) ((rd_T38 x8 x10).f0.f1) x480000 x480001).bind fun t482 => (if t482 = true then (if x5.length < 4398046511104 then (above_Below.l0 k x0 (x5 ++ [(⟨(rd_T38 x8 x10).f0.f0, (rd_T38 x8 x10).f0.f1⟩ : S28)]) x8 x9 (wrap64 (x10 + 1)) x480000 x480001) else (none)) else (above_Below.l0 k x0 x5 x8 x9 (wrap64 (x10 + 1)) x480000 x480001))) else (above_Below.l0 k x0 x5 x8 x9 (wrap64 (x10 + 1)) x480000 x480001)) else (none)) else (none)) else (some x5)
def above_Below.f (k : Nat) (l0 : List (S38)) (a1_0 : ByteArray) (a1_1 : ByteArray) : Option ((List (S28))) := above_Below.l0 k l0 ([] : List (S28)) l0 (l0.length : Int) 0 a1_0 a1_1
theorem above_Below.mono_l : ∀ k, (∀ y0 y1 y2 y3 y4 y5 y6, LeO (above_Below.l0 k y0 y1 y2 y3 y4 y5 y6) (above_Below.l0 (k + 1) y0 y1 y2 y3 y4 y5 y6))
 | 0 => fun _ _ _ _ _ _ _ r h => by simp [above_Below.l0] at h
 | k + 1 => by
  have ih0 := above_Below.mono_l k
  ·
   intro y0 y1 y2 y3 y4 y5 y6
   unfold above_Below.l0
   repeat' first
   | (with_reducible exact ih0 _ _ _ _ _ _ _)
   | (with_reducible exact LeO.refl _)
   | (with_reducible exact LeO.none _)
   | (with_reducible refine LeO.ite ?_ ?_)
   | (with_reducible refine LeO.bind ?_ (fun _ => ?_))
   | exact ih0 _ _ _ _ _ _ _
   | exact LeO.none _
   | refine LeO.ite ?_ ?_
   | refine LeO.bind ?_ (fun _ => ?_)
theorem above_Below.mono : ∀ a0 a1 a2 k, LeO (above_Below.f k a0 a1 a2) (above_Below.f (k + 1) a0 a1 a2) := by
 intro a0 a1 a2 k
 have ih0 := above_Below.mono_l k
 unfold above_Below.f
 repeat' first
   | (with_reducible exact ih0 _ _ _ _ _ _ _)
   | (with_reducible exact LeO.refl _)
   | (with_reducible exact LeO.none _)
   | (with_reducible refine LeO.ite ?_ ?_)
   | (with_reducible refine LeO.bind ?_ (fun _ => ?_))
   | exact ih0 _ _ _ _ _ _ _
   | exact LeO.none _
   | refine LeO.ite ?_ ?_
   | refine LeO.bind ?_ (fun _ => ?_)
set_option maxHeartbeats 8000000 in
set_option maxRecDepth 100000 in
theorem above_Below.calls (k : Nat) (A0 : Option Addr) (c0 : Nat) (l0 : List (S38)) (a1_0 : ByteArray) (a1_1 : ByteArray) (r : List (S28)) (w : World) (hr0 : Kd.C k38 w A0 l0.length l0) (hc0 : l0.length ≤ c0) (h : above_Below.f k l0 a1_0 a1_1 = some r) :
  Calls Try.prog 21 #[.slice A0 l0.length c0, .agg #[.string a1_0, .string a1_1]] w fun e w' => ∃ v0_ : Value, e = .returned (v0_) ∧ Kd.R k28 28 w' w.heap.size (fun _ => True) v0_ r ∧ Below w.heap.size w w' := by
 have hu28 := Try.underlying28
 have hu38 := Try.underlying38
 have HR0 := aZ_ hr0
 have HC0 := aZ_ hc0
 clear hr0 hc0
 have HB := aZ_ (Below.refl w.heap.size w)
 have H : (above_Below.l0 k l0 ([] : List (S28)) l0 (l0.length : Int) 0 a1_0 a1_1) = some r := h
 clear h
 have H' := aZ_ H
 clear H
 go_enter Try.func21, Try.ntmps21
 go_wp2_with (first | ((with_reducible refine gate_dst (N := 3) rfl ?_); refine bxE 3 #[.string a1_0, .string a1_1] 28 ?_; intro gb479 hg w3 hbox hb; have BK479 := aZ_ (hbox); have GW479 := aZ_ ((by rw [hg]; exact (below_size (bl HB)) : w.heap.size ≤ gb479)); have GE479 := aZ_ ((by rw [hg]; exact (below_size (bl HB)) : w.heap.size ≤ gb479)); replace HB := aZ_ (below_step (bl HB) hb); clear hb hbox hg))
 go_loopg [5, 10] k (fun kq v5 v10 w' => ∃ (x5_1 : List (S28)) (x10_1 : Int), v10 = .int .i64 x10_1 ∧ Aside0 (above_Below.l0 kq l0 x5_1 l0 (l0.length : Int) x10_1 a1_0 a1_1 = some r) ∧ Aside0 (kq ≤ k) ∧ Aside0 (Kd.R k28 28 w' w.heap.size (fun k_ => k_ ≠ gb479) v5 x5_1) ∧ Aside0 (w'.heap[gb479]? = some (.cells #[.string a1_0, .string a1_1] 28 (0, 0))) ∧ Aside0 (Below w.heap.size w w'))
 case atStart => exact ⟨(([] : List (S28))), (0), rf_, H', ⟨Nat.le_refl _⟩, ⟨by first | exact Kd.R_nil _ _ _ _ _ | exact Kd.N_nil _ _ _ _ _ | exact Kd.V_nil _ _ _ _ _ | exact Kd.Q_nil _ _ _ _ _ | exact Kd.S_nil _ _ _ _ _⟩, ⟨bk BK479⟩, ⟨bl1 HB GE479⟩⟩
 case round =>
  clear H'
  try clear c2
  try clear p2
  obtain ⟨x5_1, x10_1, rfl, HA, HK1, HO_5, BK479, HB⟩ := hrel
  cases gk with
  | zero => exact absurd HA.out (by simp [above_Below.l0])
  | succ k1 =>
   have H := HA.out
   clear HA
   simp only [above_Below.l0] at H
   by_cases c4 : x10_1 < (l0.length : Int)
   ·
    rw [if_pos c4] at H
    have c4b0 : decide (x10_1 < (l0.length : Int)) = true := decide_eq_true c4
    clear c4
    by_cases c5 : 0 ≤ x10_1
    ·
     rw [if_pos c5] at H
     have c5b0 : decide (0 ≤ x10_1) = true := decide_eq_true c5
     clear c5
     by_cases c6 : x10_1 < (l0.length : Int)
     ·
      rw [if_pos c6] at H
      have c6b0 : decide (x10_1 < (l0.length : Int)) = true := decide_eq_true c6
      clear c6
      by_cases c7 : (!((((rd_T38 l0 x10_1).f0.f0).toList) == a1_0.toList) || (!((((rd_T38 l0 x10_1).f0.f1).toList) == a1_1.toList))) = true
      ·
       rw [if_pos c7] at H
       have c7b0 : (!((((rd_T38 l0 x10_1).f0.f0).toList) == a1_0.toList) || (!((((rd_T38 l0 x10_1).f0.f1).toList) == a1_1.toList))) = true := c7
       clear c7
       replace H := Option.bind_eq_some_iff.mp H
       obtain ⟨t482, A80, H⟩ := H
       replace H : (if t482 = true then (if x5_1.length < 4398046511104 then (above_Below.l0 k1 l0 (x5_1 ++ [(⟨(rd_T38 l0 x10_1).f0.f0, (rd_T38 l0 x10_1).f0.f1⟩ : S28)]) l0 (l0.length : Int) (wrap64 (x10_1 + 1)) a1_0 a1_1) else (none)) else (above_Below.l0 k1 l0 x5_1 l0 (l0.length : Int) (wrap64 (x10_1 + 1)) a1_0 a1_1)) = some r := H
       have A8 := aZ_ A80
       clear A80
       by_cases c9 : t482 = true
       ·
        subst c9
        have H1 : (if x5_1.length < 4398046511104 then (above_Below.l0 k1 l0 (x5_1 ++ [(⟨(rd_T38 l0 x10_1).f0.f0, (rd_T38 l0 x10_1).f0.f1⟩ : S28)]) l0 (l0.length : Int) (wrap64 (x10_1 + 1)) a1_0 a1_1) else (none)) = some r := by rw [if_pos rfl] at H; exact H
        clear H
        have H := H1
        clear H1
        by_cases c10 : x5_1.length < 4398046511104
        ·
         rw [if_pos c10] at H
         have LMc10 := aZ_ c10
         clear c10
         obtain ⟨y483, hy483⟩ : ∃ y_ : List (S28), y_ = (x5_1 ++ [(⟨(rd_T38 l0 x10_1).f0.f0, (rd_T38 l0 x10_1).f0.f1⟩ : S28)]) := ⟨_, rfl⟩
         replace H : (above_Below.l0 k1 l0 y483 l0 (l0.length : Int) (wrap64 (x10_1 + 1)) a1_0 a1_1) = some r := by first | (rw [hy483]; with_reducible exact H) | (have H2_ := (Option.bind_some _ _).symm.trans H; rw [hy483]; with_reducible exact H2_) | (have H2_ := (Option.bind_some _ _).symm.trans H; with_reducible exact H2_) | with_reducible exact H | (rw [hy483]; exact H) | exact H
         have Ny483 := aZ_ hy483
         clear hy483
         have H' := aZ_ H
         clear H
         have p480 : 0 ≤ (x10_1 : Int) := of_decide_eq_true asm_
         have q480 : x10_1 < (l0.length : Int) := of_decide_eq_true asm_
         obtain ⟨ad480, A480_2, c480_2, A480_3, c480_3, e480, hx480_0, hx480_1, hx480_2, hx480_3, hl480_2, hi480_2, hl480_3, hi480_3⟩ := at_T38 HR0.out x10_1 p480 q480
         cases e480
         replace hx480_0 := (hbc HB.out hx480_0 :)
         replace hx480_1 := (hbc HB.out hx480_1 :)
         replace hx480_2 := (hbc HB.out hx480_2 :)
         replace hx480_3 := (hbc HB.out hx480_3 :)
         have HR480_2 := aZ_ hi480_2
         have HC480_2 := aZ_ hl480_2
         clear hi480_2 hl480_2
         have HR480_3 := aZ_ hi480_3
         have HC480_3 := aZ_ hl480_3
         clear hi480_3 hl480_3
         replace p480 := eq_true p480
         replace q480 := eq_true q480
         go_wp2_with (first | ((with_reducible refine gate_dst (N := 7) rfl ?_); refine bxE 7 #[.string (⟨#[]⟩ : ByteArray), .string (⟨#[]⟩ : ByteArray), .slice none 0 0, .slice none 0 0] 38 ?_; intro gb481 hg w11 hbox hb; replace HO_5 := aZ_ (Kd.R_below (kR HO_5) hb); have BK481 := aZ_ (hbox); have GW481 := aZ_ ((by rw [hg]; exact (below_size (bl1 HB GE479)) : w.heap.size ≤ gb481)); have GE481 := aZ_ ((by rw [hg]; exact (below_size (bl1 HB GE479)) : w.heap.size ≤ gb481)); replace HB := aZ_ (below_step (bl1 HB GE479) hb); have NB479_481 := aZ_ ((by rw [hg]; exact Nat.ne_of_lt (blk_lt (g := gb479) (o := .cells #[.string a1_0, .string a1_1] 28 (0, 0)) (bk BK479)) : gb479 ≠ gb481)); have NB481_479 := aZ_ ((by rw [hg]; exact Nat.ne_of_gt (blk_lt (g := gb479) (o := .cells #[.string a1_0, .string a1_1] 28 (0, 0)) (bk BK479)) : gb481 ≠ gb479)); replace BK479 := aZ_ (blk_below (g := gb479) (o := .cells #[.string a1_0, .string a1_1] 28 (0, 0)) (bk BK479) hb); clear hb hbox hg; have hnb12 := NB481_479.out; have hnc12 := NB479_481.out; obtain ⟨hcz13_0, hcz13_1, hcz13_2, hcz13_3, hfz13_0, hfz13_1, hfz13_2, hfz13_3⟩ := bc4 BK481; obtain ⟨hcz14_0, hcz14_1, hfz14_0, hfz14_1⟩ := bc2 BK479) | (go_at_call 16; (with_reducible refine (above_In.calls _ _ l0 ((rd_T38 l0 x10_1).f0.f0) ((rd_T38 l0 x10_1).f0.f1) a1_0 a1_1 true _ ?side1 ?side2 A8.out).mono ?_); (case side1 => exact Kd.C_below HR0.out (bl2 HB GE479 GE481)); (case side2 => exact HC0.out); rintro e w15 ⟨rfl, hb⟩; replace HO_5 := aZ_ (Kd.R_below (by (with_reducible repeat (first | apply Kd.R_alloc | apply Kd.R_drewN | apply Kd.R_drew)); exact (Kd.R_mono (Kd.R_far (p := ⟨gb481, 3, none⟩) (Kd.R_far (p := ⟨gb481, 2, none⟩) (Kd.R_far (p := ⟨gb481, 1, none⟩) (Kd.R_far (p := ⟨gb481, 0, none⟩) (Kd.R_types HO_5.out BK481.out (by decide)) (fun _ hk => hk.2) (.string ((rd_T38 l0 x10_1).f0.f0))) (fun _ hk => hk.2) (.string ((rd_T38 l0 x10_1).f0.f1))) (fun _ hk => hk.2) (.slice A480_2 ((rd_T38 l0 x10_1).f1).length c480_2)) (fun _ hk => hk.2) (.slice A480_3 ((rd_T38 l0 x10_1).f2).length c480_3)) (fun _ h_ => h_.1))) hb); replace BK479 := aZ_ (blk_below (g := gb479) (o := .cells #[.string a1_0, .string a1_1] 28 (0, 0)) (by (with_reducible repeat (first | refine blk_drewN ?_ _ | refine blk_drew ?_ | refine blk_alloc ?_ _)); refine blk_far ?_ NB479_481.out _; (with_reducible repeat (first | refine blk_drewN ?_ _ | refine blk_drew ?_ | refine blk_alloc ?_ _)); refine blk_far ?_ NB479_481.out _; (with_reducible repeat (first | refine blk_drewN ?_ _ | refine blk_drew ?_ | refine blk_alloc ?_ _)); refine blk_far ?_ NB479_481.out _; (with_reducible repeat (first | refine blk_drewN ?_ _ | refine blk_drew ?_ | refine blk_alloc ?_ _)); refine blk_far ?_ NB479_481.out _; (with_reducible repeat (first | refine blk_drewN ?_ _ | refine blk_drew ?_ | refine blk_alloc ?_ _)); exact BK479.out) hb); replace BK481 := aZ_ (blk_below (g := gb481) (o := .cells #[.string ((rd_T38 l0 x10_1).f0.f0), .string ((rd_T38 l0 x10_1).f0.f1), .slice A480_2 ((rd_T38 l0 x10_1).f1).length c480_2, .slice A480_3 ((rd_T38 l0 x10_1).f2).length c480_3] 38 (0, 0)) (by (with_reducible repeat (first | refine blk_drewN ?_ _ | refine blk_drew ?_ | refine blk_alloc ?_ _)); refine blk_put (cs := #[.string ((rd_T38 l0 x10_1).f0.f0), .string ((rd_T38 l0 x10_1).f0.f1), .slice A480_2 ((rd_T38 l0 x10_1).f1).length c480_2, .slice none 0 0]) ?_ 3 _ rfl; (with_reducible repeat (first | refine blk_drewN ?_ _ | refine blk_drew ?_ | refine blk_alloc ?_ _)); refine blk_put (cs := #[.string ((rd_T38 l0 x10_1).f0.f0), .string ((rd_T38 l0 x10_1).f0.f1), .slice none 0 0, .slice none 0 0]) ?_ 2 _ rfl; (with_reducible repeat (first | refine blk_drewN ?_ _ | refine blk_drew ?_ | refine blk_alloc ?_ _)); refine blk_put (cs := #[.string ((rd_T38 l0 x10_1).f0.f0), .string (⟨#[]⟩ : ByteArray), .slice none 0 0, .slice none 0 0]) ?_ 1 _ rfl; (with_reducible repeat (first | refine blk_drewN ?_ _ | refine blk_drew ?_ | refine blk_alloc ?_ _)); refine blk_put (cs := #[.string (⟨#[]⟩ : ByteArray), .string (⟨#[]⟩ : ByteArray), .slice none 0 0, .slice none 0 0]) ?_ 0 _ rfl; (with_reducible repeat (first | refine blk_drewN ?_ _ | refine blk_drew ?_ | refine blk_alloc ?_ _)); exact BK481.out) hb); replace HB := aZ_ (below_step (bl2 HB GE479 GE481) hb); (try clear hb); (try clear hb2); (try clear hk); (try clear hi); obtain ⟨hcz16_0, hcz16_1, hcz16_2, hcz16_3, hfz16_0, hfz16_1, hfz16_2, hfz16_3⟩ := bc4 BK481) | ((with_reducible refine gate_builtin (b := .append) (xs := #[.tmp 25, .tmp 28]) rfl ?_); at_builtin; refine Kd.R_append k28 (w0 := w) w.heap.size rfl (.tmp 25) (.tmp 28) 30 28 (.agg #[(.string ⟨#[]⟩), (.string ⟨#[]⟩)]) 32 rfl Try.underlying30 info28 rfl (by decide) (by omega) u5 x5_1 (⟨(rd_T38 l0 x10_1).f0.f0, (rd_T38 l0 x10_1).f0.f1⟩ : S28) [.string ((rd_T38 l0 x10_1).f0.f0), .string ((rd_T38 l0 x10_1).f0.f1)] (fun k_ => k_ ≠ gb479) (fun _ => False) rfl rfl ?aP (fun _ hk => hk.elim) ?aF ?aO ?aB ?aS ?aL ?_; (case aP => exact k28_mkM _ _ _ (⟨(rd_T38 l0 x10_1).f0.f0, (rd_T38 l0 x10_1).f0.f1⟩ : S28)); (case aB => exact (bl2 HB GE479 GE481)); (case aF => exact (fun k_ hk => Kd.freshB (g := gb479) (o := .cells #[.string a1_0, .string a1_1] 28 (0, 0)) (bk BK479) k_ hk)); (case aO => exact (kR HO_5)); (case aS => exact (below_size (bl2 HB GE479 GE481))); (case aL => have := LMc10.out; omega); intro v484 w17 ho hb hg hat; rw [← Ny483.out] at ho; replace BK479 := aZ_ (blk_grown (g := gb479) (o := .cells #[.string a1_0, .string a1_1] 28 (0, 0)) (bk BK479) hg (Kd.R_away HO_5.out (fun _ hk => hk))); replace BK481 := aZ_ (blk_grown (g := gb481) (o := .cells #[.string ((rd_T38 l0 x10_1).f0.f0), .string ((rd_T38 l0 x10_1).f0.f1), .slice A480_2 ((rd_T38 l0 x10_1).f1).length c480_2, .slice A480_3 ((rd_T38 l0 x10_1).f2).length c480_3] 38 (0, 0)) (bk BK481) hg (Kd.R_ne HO_5.out BK481.out (by decide))); replace HB := aZ_ (hb); have HO485 := aZ_ (ho); clear HO_5; clear ho hb hg hat))
         go_roundg k1
         case measure => have := HK1.out; omega
         case rel => exact ⟨(y483), (wrap64 (x10_1 + 1)), rf_, H', ⟨by have := HK1.out; omega⟩, ⟨kR HO485⟩, ⟨bk BK479⟩, ⟨bl2 HB GE479 GE481⟩⟩
        ·
         rw [if_neg c10] at H
         exact absurd H (by simp)
       ·
        replace c9 := Bool.eq_false_iff.mpr c9
        subst c9
        have H1 : (above_Below.l0 k1 l0 x5_1 l0 (l0.length : Int) (wrap64 (x10_1 + 1)) a1_0 a1_1) = some r := by rw [if_neg (show ¬ (false = true) by decide)] at H; exact H
        clear H
        have H := H1
        clear H1
        have H' := aZ_ H
        clear H
        have p480 : 0 ≤ (x10_1 : Int) := of_decide_eq_true asm_
        have q480 : x10_1 < (l0.length : Int) := of_decide_eq_true asm_
        obtain ⟨ad480, A480_2, c480_2, A480_3, c480_3, e480, hx480_0, hx480_1, hx480_2, hx480_3, hl480_2, hi480_2, hl480_3, hi480_3⟩ := at_T38 HR0.out x10_1 p480 q480
        cases e480
        replace hx480_0 := (hbc HB.out hx480_0 :)
        replace hx480_1 := (hbc HB.out hx480_1 :)
        replace hx480_2 := (hbc HB.out hx480_2 :)
        replace hx480_3 := (hbc HB.out hx480_3 :)
        have HR480_2 := aZ_ hi480_2
        have HC480_2 := aZ_ hl480_2
        clear hi480_2 hl480_2
        have HR480_3 := aZ_ hi480_3
        have HC480_3 := aZ_ hl480_3
        clear hi480_3 hl480_3
        replace p480 := eq_true p480
        replace q480 := eq_true q480
        go_wp2_with (first | ((with_reducible refine gate_dst (N := 7) rfl ?_); refine bxE 7 #[.string (⟨#[]⟩ : ByteArray), .string (⟨#[]⟩ : ByteArray), .slice none 0 0, .slice none 0 0] 38 ?_; intro gb481 hg w18 hbox hb; replace HO_5 := aZ_ (Kd.R_below (kR HO_5) hb); have BK481 := aZ_ (hbox); have GW481 := aZ_ ((by rw [hg]; exact (below_size (bl1 HB GE479)) : w.heap.size ≤ gb481)); have GE481 := aZ_ ((by rw [hg]; exact (below_size (bl1 HB GE479)) : w.heap.size ≤ gb481)); replace HB := aZ_ (below_step (bl1 HB GE479) hb); have NB479_481 := aZ_ ((by rw [hg]; exact Nat.ne_of_lt (blk_lt (g := gb479) (o := .cells #[.string a1_0, .string a1_1] 28 (0, 0)) (bk BK479)) : gb479 ≠ gb481)); have NB481_479 := aZ_ ((by rw [hg]; exact Nat.ne_of_gt (blk_lt (g := gb479) (o := .cells #[.string a1_0, .string a1_1] 28 (0, 0)) (bk BK479)) : gb481 ≠ gb479)); replace BK479 := aZ_ (blk_below (g := gb479) (o := .cells #[.string a1_0, .string a1_1] 28 (0, 0)) (bk BK479) hb); clear hb hbox hg; have hnb19 := NB481_479.out; have hnc19 := NB479_481.out; obtain ⟨hcz20_0, hcz20_1, hcz20_2, hcz20_3, hfz20_0, hfz20_1, hfz20_2, hfz20_3⟩ := bc4 BK481; obtain ⟨hcz21_0, hcz21_1, hfz21_0, hfz21_1⟩ := bc2 BK479) | (go_at_call 16; (with_reducible refine (above_In.calls _ _ l0 ((rd_T38 l0 x10_1).f0.f0) ((rd_T38 l0 x10_1).f0.f1) a1_0 a1_1 false _ ?side1 ?side2 A8.out).mono ?_); (case side1 => exact Kd.C_below HR0.out (bl2 HB GE479 GE481)); (case side2 => exact HC0.out); rintro e w22 ⟨rfl, hb⟩; replace HO_5 := aZ_ (Kd.R_below (by (with_reducible repeat (first | apply Kd.R_alloc | apply Kd.R_drewN | apply Kd.R_drew)); exact (Kd.R_mono (Kd.R_far (p := ⟨gb481, 3, none⟩) (Kd.R_far (p := ⟨gb481, 2, none⟩) (Kd.R_far (p := ⟨gb481, 1, none⟩) (Kd.R_far (p := ⟨gb481, 0, none⟩) (Kd.R_types HO_5.out BK481.out (by decide)) (fun _ hk => hk.2) (.string ((rd_T38 l0 x10_1).f0.f0))) (fun _ hk => hk.2) (.string ((rd_T38 l0 x10_1).f0.f1))) (fun _ hk => hk.2) (.slice A480_2 ((rd_T38 l0 x10_1).f1).length c480_2)) (fun _ hk => hk.2) (.slice A480_3 ((rd_T38 l0 x10_1).f2).length c480_3)) (fun _ h_ => h_.1))) hb); replace BK479 := aZ_ (blk_below (g := gb479) (o := .cells #[.string a1_0, .string a1_1] 28 (0, 0)) (by (with_reducible repeat (first | refine blk_drewN ?_ _ | refine blk_drew ?_ | refine blk_alloc ?_ _)); refine blk_far ?_ NB479_481.out _; (with_reducible repeat (first | refine blk_drewN ?_ _ | refine blk_drew ?_ | refine blk_alloc ?_ _)); refine blk_far ?_ NB479_481.out _; (with_reducible repeat (first | refine blk_drewN ?_ _ | refine blk_drew ?_ | refine blk_alloc ?_ _)); refine blk_far ?_ NB479_481.out _; (with_reducible repeat (first | refine blk_drewN ?_ _ | refine blk_drew ?_ | refine blk_alloc ?_ _)); refine blk_far ?_ NB479_481.out _; (with_reducible repeat (first | refine blk_drewN ?_ _ | refine blk_drew ?_ | refine blk_alloc ?_ _)); exact BK479.out) hb); replace BK481 := aZ_ (blk_below (g := gb481) (o := .cells #[.string ((rd_T38 l0 x10_1).f0.f0), .string ((rd_T38 l0 x10_1).f0.f1), .slice A480_2 ((rd_T38 l0 x10_1).f1).length c480_2, .slice A480_3 ((rd_T38 l0 x10_1).f2).length c480_3] 38 (0, 0)) (by (with_reducible repeat (first | refine blk_drewN ?_ _ | refine blk_drew ?_ | refine blk_alloc ?_ _)); refine blk_put (cs := #[.string ((rd_T38 l0 x10_1).f0.f0), .string ((rd_T38 l0 x10_1).f0.f1), .slice A480_2 ((rd_T38 l0 x10_1).f1).length c480_2, .slice none 0 0]) ?_ 3 _ rfl; (with_reducible repeat (first | refine blk_drewN ?_ _ | refine blk_drew ?_ | refine blk_alloc ?_ _)); refine blk_put (cs := #[.string ((rd_T38 l0 x10_1).f0.f0), .string ((rd_T38 l0 x10_1).f0.f1), .slice none 0 0, .slice none 0 0]) ?_ 2 _ rfl; (with_reducible repeat (first | refine blk_drewN ?_ _ | refine blk_drew ?_ | refine blk_alloc ?_ _)); refine blk_put (cs := #[.string ((rd_T38 l0 x10_1).f0.f0), .string (⟨#[]⟩ : ByteArray), .slice none 0 0, .slice none 0 0]) ?_ 1 _ rfl; (with_reducible repeat (first | refine blk_drewN ?_ _ | refine blk_drew ?_ | refine blk_alloc ?_ _)); refine blk_put (cs := #[.string (⟨#[]⟩ : ByteArray), .string (⟨#[]⟩ : ByteArray), .slice none 0 0, .slice none 0 0]) ?_ 0 _ rfl; (with_reducible repeat (first | refine blk_drewN ?_ _ | refine blk_drew ?_ | refine blk_alloc ?_ _)); exact BK481.out) hb); replace HB := aZ_ (below_step (bl2 HB GE479 GE481) hb); (try clear hb); (try clear hb2); (try clear hk); (try clear hi)))
        go_roundg k1
        case measure => have := HK1.out; omega
        case rel => exact ⟨(x5_1), (wrap64 (x10_1 + 1)), rf_, H', ⟨by have := HK1.out; omega⟩, ⟨kR HO_5⟩, ⟨bk BK479⟩, ⟨bl2 HB GE479 GE481⟩⟩
      ·
       rw [if_neg c7] at H
       have c7b0 : (!((((rd_T38 l0 x10_1).f0.f0).toList) == a1_0.toList) || (!((((rd_T38 l0 x10_1).f0.f1).toList) == a1_1.toList))) = false := by simpa using c7
       clear c7
       have H' := aZ_ H
       clear H
       have p480 : 0 ≤ (x10_1 : Int) := of_decide_eq_true asm_
       have q480 : x10_1 < (l0.length : Int) := of_decide_eq_true asm_
       obtain ⟨ad480, A480_2, c480_2, A480_3, c480_3, e480, hx480_0, hx480_1, hx480_2, hx480_3, hl480_2, hi480_2, hl480_3, hi480_3⟩ := at_T38 HR0.out x10_1 p480 q480
       cases e480
       replace hx480_0 := (hbc HB.out hx480_0 :)
       replace hx480_1 := (hbc HB.out hx480_1 :)
       replace hx480_2 := (hbc HB.out hx480_2 :)
       replace hx480_3 := (hbc HB.out hx480_3 :)
       have HR480_2 := aZ_ hi480_2
       have HC480_2 := aZ_ hl480_2
       clear hi480_2 hl480_2
       have HR480_3 := aZ_ hi480_3
       have HC480_3 := aZ_ hl480_3
       clear hi480_3 hl480_3
       replace p480 := eq_true p480
       replace q480 := eq_true q480
       go_wp2_with (first | ((with_reducible refine gate_dst (N := 7) rfl ?_); refine bxE 7 #[.string (⟨#[]⟩ : ByteArray), .string (⟨#[]⟩ : ByteArray), .slice none 0 0, .slice none 0 0] 38 ?_; intro gb481 hg w23 hbox hb; replace HO_5 := aZ_ (Kd.R_below (kR HO_5) hb); have BK481 := aZ_ (hbox); have GW481 := aZ_ ((by rw [hg]; exact (below_size (bl1 HB GE479)) : w.heap.size ≤ gb481)); have GE481 := aZ_ ((by rw [hg]; exact (below_size (bl1 HB GE479)) : w.heap.size ≤ gb481)); replace HB := aZ_ (below_step (bl1 HB GE479) hb); have NB479_481 := aZ_ ((by rw [hg]; exact Nat.ne_of_lt (blk_lt (g := gb479) (o := .cells #[.string a1_0, .string a1_1] 28 (0, 0)) (bk BK479)) : gb479 ≠ gb481)); have NB481_479 := aZ_ ((by rw [hg]; exact Nat.ne_of_gt (blk_lt (g := gb479) (o := .cells #[.string a1_0, .string a1_1] 28 (0, 0)) (bk BK479)) : gb481 ≠ gb479)); replace BK479 := aZ_ (blk_below (g := gb479) (o := .cells #[.string a1_0, .string a1_1] 28 (0, 0)) (bk BK479) hb); clear hb hbox hg; have hnb24 := NB481_479.out; have hnc24 := NB479_481.out; obtain ⟨hcz25_0, hcz25_1, hcz25_2, hcz25_3, hfz25_0, hfz25_1, hfz25_2, hfz25_3⟩ := bc4 BK481; obtain ⟨hcz26_0, hcz26_1, hfz26_0, hfz26_1⟩ := bc2 BK479))
       go_roundg k1
       case measure => have := HK1.out; omega
       case rel => exact ⟨(x5_1), (wrap64 (x10_1 + 1)), rf_, H', ⟨by have := HK1.out; omega⟩, ⟨by (with_reducible repeat (first | apply Kd.R_alloc | apply Kd.R_drewN | apply Kd.R_drew)); exact Kd.R_mono (Kd.R_far (p := ⟨gb481, 3, none⟩) (Kd.R_far (p := ⟨gb481, 2, none⟩) (Kd.R_far (p := ⟨gb481, 1, none⟩) (Kd.R_far (p := ⟨gb481, 0, none⟩) (Kd.R_types HO_5.out BK481.out (by decide)) (fun _ hk => hk.2) (.string ((rd_T38 l0 x10_1).f0.f0))) (fun _ hk => hk.2) (.string ((rd_T38 l0 x10_1).f0.f1))) (fun _ hk => hk.2) (.slice A480_2 ((rd_T38 l0 x10_1).f1).length c480_2)) (fun _ hk => hk.2) (.slice A480_3 ((rd_T38 l0 x10_1).f2).length c480_3)) (fun _ hk => hk.1)⟩, ⟨by (with_reducible repeat (first | refine blk_drewN ?_ _ | refine blk_drew ?_ | refine blk_alloc ?_ _)); refine blk_far ?_ NB479_481.out _; (with_reducible repeat (first | refine blk_drewN ?_ _ | refine blk_drew ?_ | refine blk_alloc ?_ _)); refine blk_far ?_ NB479_481.out _; (with_reducible repeat (first | refine blk_drewN ?_ _ | refine blk_drew ?_ | refine blk_alloc ?_ _)); refine blk_far ?_ NB479_481.out _; (with_reducible repeat (first | refine blk_drewN ?_ _ | refine blk_drew ?_ | refine blk_alloc ?_ _)); refine blk_far ?_ NB479_481.out _; (with_reducible repeat (first | refine blk_drewN ?_ _ | refine blk_drew ?_ | refine blk_alloc ?_ _)); exact BK479.out⟩, ⟨bl2 HB GE479 GE481⟩⟩
     ·
      rw [if_neg c6] at H
      exact absurd H (by simp)
    ·
     rw [if_neg c5] at H
     exact absurd H (by simp)
   ·
    rw [if_neg c4] at H
    have c4b0 : decide (x10_1 < (l0.length : Int)) = false := decide_eq_false c4
    clear c4
    obtain rfl := Option.some.inj H
    go_wp2
    go_ret
    exact ⟨_, by first | rfl | (simp [errW_none, errW_some] <;> rfl) | (simp [*, errW_none, errW_some] <;> rfl), by (with_reducible repeat (first | apply Kd.R_alloc | apply Kd.R_drewN | apply Kd.R_drew)); exact Kd.R_mono HO_5.out (fun _ hk => trivial), bl1 HB GE479⟩

end Go.Proofs.Ytelibndkkokadaa.GB
