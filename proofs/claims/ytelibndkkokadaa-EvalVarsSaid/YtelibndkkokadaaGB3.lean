-- Written by wip/tools/gprint.py over the kit's printer.
import Derived.Test.YtelibndkkokadaaGB0
import Derived.Test.YtelibndkkokadaaGB2
import Derived.Test.YtelibndkkokadaaSqz
namespace Go.Proofs.Ytelibndkkokadaa.GB
open Go.RowKit Go.Proofs.YtelibndkkokadaaW.PrintWords Go.Proofs.YtelibndkkokadaaW.PrintLast Go.Proofs.Ytelibndkkokadaa.HandV Go.Proofs.YtelibndkkokadaaW.PrintMore
attribute [local go_sem] max2_int min2_int max_two min_two max_three min_three max_four min_four   -- for this text's walks alone
set_option linter.unusedVariables false
set_option linter.unusedSimpArgs false

/-! ### chancelref8_Put: function 26 -/
def chancelref8_Put.l0 : Nat → List (S38) → Int → ByteArray → ByteArray → List (S28) → List (S58) → Option ((List (S38)))
 | 0, _, _, _, _, _, _ => none
 | k + 1, x0, x5, x110000, x110001, x110002, x110003 => if x5 < (x0.length : Int) then (if 0 ≤ x5 then ((chancelref3_LessUid.f ((rd_T38 x0 x5).f0.f0) ((rd_T38 x0 x5).f0.f1) x110000 x110001).bind fun t114 => (if t114 = true then (chancelref8_Put.l0 k x0 (wrap64 (x5 + 1)) x110000 x110001 x110002 x110003) else (if x5 ≤ (x0.length : Int) then ((some (x0.take (x5 : Int).toNat : List (S38))).bind fun y115 => (if ([] : List (S38)).length + y115.length < 1759218604441 then ((some (([] : List (S38)) ++ y115 : List (S38))).bind fun y120 => (if y120.length < 1759218604441 then ((some (y120 ++ [(⟨(⟨x110000, x110001⟩ : S28), x110002, x110003⟩ : S38)] : List (S38))).bind fun y123 => ((some (x0.drop (x5 : Int).toNat : List (S38))).bind fun y126 => (if y123.length + y126.length < 1759218604441 then (some (y123 ++ y126)) else (none)))) else (none))) else (none))) else (none)))) else (none)) else (if 0 ≤ x5 then (if x5 ≤ (x0.length : Int) then ((some (x0.take (x5 : Int).toNat : List (S38))).bind fun y134 => (if ([] : List (S38)).length + y134.length < 1759218604441 then ((some (([] : List (S38)) ++ y134 : List (S38))).bind fun y139 => (if y139.length < 1759218604441 then ((some (y139 ++ [(⟨(⟨x110000, x110001⟩ : S28), x110002, x110003⟩ : S38)] : List (S38))).bind fun y142 => ((some (x0.drop (x5 : Int).toNat : List (S38))).bind fun y145 => (if y142.length + y145.length < 1759218604441 then (some (y142 ++ y145)) else (none)))) else (none))) else (none))) else (none)) else (none))
def chancelref8_Put.f (k : Nat) (l0 : List (S38)) (a1_0 : ByteArray) (a1_1 : ByteArray) (l1_2 : List (S28)) (l1_3 : List (S58)) : Option ((List (S38))) := (chancelref8_Drop.f k l0 a1_0 a1_1).bind fun t110 => (chancelref8_Put.l0 k t110 0 a1_0 a1_1 l1_2 l1_3)
theorem chancelref8_Put.mono_l : ∀ k, (∀ y0 y1 y2 y3 y4 y5, LeO (chancelref8_Put.l0 k y0 y1 y2 y3 y4 y5) (chancelref8_Put.l0 (k + 1) y0 y1 y2 y3 y4 y5))
 | 0 => fun _ _ _ _ _ _ r h => by simp [chancelref8_Put.l0] at h
 | k + 1 => by
  have ih0 := chancelref8_Put.mono_l k
  ·
   intro y0 y1 y2 y3 y4 y5
   unfold chancelref8_Put.l0
   repeat' first
   | (with_reducible exact ih0 _ _ _ _ _ _)
   | (with_reducible exact chancelref8_Drop.mono _ _ _ _)
   | (with_reducible exact LeO.refl _)
   | (with_reducible exact LeO.none _)
   | (with_reducible refine LeO.ite ?_ ?_)
   | (with_reducible refine LeO.bind ?_ (fun _ => ?_))
   | exact ih0 _ _ _ _ _ _
   | exact chancelref8_Drop.mono _ _ _ _
   | exact LeO.none _
   | refine LeO.ite ?_ ?_
   | refine LeO.bind ?_ (fun _ => ?_)
theorem chancelref8_Put.mono : ∀ a0 a1 a2 a3 a4 k, LeO (chancelref8_Put.f k a0 a1 a2 a3 a4) (chancelref8_Put.f (k + 1) a0 a1 a2 a3 a4) := by
 intro a0 a1 a2 a3 a4 k
 have ih0 := chancelref8_Put.mono_l k
 unfold chancelref8_Put.f
 repeat' first
   | (with_reducible exact ih0 _ _ _ _ _ _)
   | (with_reducible exact chancelref8_Drop.mono _ _ _ _)
   | (with_reducible exact LeO.refl _)
   | (with_reducible exact LeO.none _)
   | (with_reducible refine LeO.ite ?_ ?_)
   | (with_reducible refine LeO.bind ?_ (fun _ => ?_))
   | exact ih0 _ _ _ _ _ _
   | exact chancelref8_Drop.mono _ _ _ _
   | exact LeO.none _
   | refine LeO.ite ?_ ?_
   | refine LeO.bind ?_ (fun _ => ?_)
def chancelref8_Put.T3 : Bool × List (List Nat × List Nat) := (true, [([], []), ([], []), ([1], [1]), ([0, 2], [0, 2]), ([3], [3]), ([4], [4]), ([4], [4]), ([5, 6, 4], [4, 5, 6]), ([7, 4], [4, 7]), ([8, 4], [4, 8]), ([4], [4]), ([10, 4], [4, 10]), ([9, 11, 4, 4], [4, 9, 11]), ([4, 12], [4, 12])])
def chancelref8_Put.B3 : List Nat := [0, 0, 2, 7, 15, 31, 31, 127, 255, 511, 31, 1055, 4095, 8191]
theorem chancelref8_Put.tab3 : rtab .any (opsOf Try.f26 3) = chancelref8_Put.T3 := by kernel_rfl
theorem chancelref8_Put.bits3 : waitsOk chancelref8_Put.T3.2 chancelref8_Put.B3 = true := by kernel_rfl
set_option maxHeartbeats 8000000 in
set_option maxRecDepth 100000 in
theorem chancelref8_Put.calls (k : Nat) (P0_ : Nat → Prop) (A0 : Option Addr) (c0 : Nat) (l0 : List (S38)) (a1_0 : ByteArray) (a1_1 : ByteArray) (P1_2_ : Nat → Prop) (A1_2 : Option Addr) (c1_2 : Nat) (l1_2 : List (S28)) (P1_3_ : Nat → Prop) (A1_3 : Option Addr) (c1_3 : Nat) (l1_3 : List (S58)) (r : List (S38)) (w : World) (hs0 : Kd.V k38 38 w w.heap.size (fun k_ => P0_ k_) (.slice A0 l0.length c0) l0) (hs1_2 : Kd.V k28 28 w w.heap.size (fun k_ => P1_2_ k_) (.slice A1_2 l1_2.length c1_2) l1_2) (hs1_3 : Kd.V k58 58 w w.heap.size (fun k_ => P1_3_ k_) (.slice A1_3 l1_3.length c1_3) l1_3) (h : chancelref8_Put.f k l0 a1_0 a1_1 l1_2 l1_3 = some r) :
  Calls Try.prog 26 #[.slice A0 l0.length c0, .agg #[.string a1_0, .string a1_1, .slice A1_2 l1_2.length c1_2, .slice A1_3 l1_3.length c1_3]] w fun e w' => ∃ v0_ : Value, e = .returned (v0_) ∧ Kd.N k38 38 w' w.heap.size (fun k_ => ((P0_ k_ ∨ P1_2_ k_ ∨ P1_3_ k_) ∨ w.heap.size ≤ k_)) v0_ r ∧ Below w.heap.size w w' := by
 have hu38 := Try.underlying38
 have hu28 := Try.underlying28
 have HO0 := aZ_ (show Kd.V k38 38 w w.heap.size (fun k_ => ((P0_ k_ ∨ P1_2_ k_ ∨ P1_3_ k_) ∨ w.heap.size ≤ k_)) (.slice A0 l0.length c0) l0 from Kd.V_mono hs0 (fun k_ hk => .inl (.inl hk)))
 have HO1_2 := aZ_ (show Kd.V k28 28 w w.heap.size (fun k_ => ((P0_ k_ ∨ P1_2_ k_ ∨ P1_3_ k_) ∨ w.heap.size ≤ k_)) (.slice A1_2 l1_2.length c1_2) l1_2 from Kd.V_mono hs1_2 (fun k_ hk => .inl (.inr (.inl hk))))
 have HO1_3 := aZ_ (show Kd.V k58 58 w w.heap.size (fun k_ => ((P0_ k_ ∨ P1_2_ k_ ∨ P1_3_ k_) ∨ w.heap.size ≤ k_)) (.slice A1_3 l1_3.length c1_3) l1_3 from Kd.V_mono hs1_3 (fun k_ hk => .inl (.inr (.inr hk))))
 have HB := aZ_ (Below.refl w.heap.size w)
 have H : ((chancelref8_Drop.f k l0 a1_0 a1_1).bind fun t110 => (chancelref8_Put.l0 k t110 0 a1_0 a1_1 l1_2 l1_3)) = some r := h
 clear h
 replace H := Option.bind_eq_some_iff.mp H
 obtain ⟨t110, A30, H⟩ := H
 replace H : (chancelref8_Put.l0 k t110 0 a1_0 a1_1 l1_2 l1_3) = some r := H
 have A3 := aZ_ A30
 clear A30
 have H' := aZ_ H
 clear H
 go_enter Try.func26, Try.ntmps26
 go_wp2_with (first | ((with_reducible refine gate_dst (N := 3) rfl ?_); refine bxE 3 #[.string a1_0, .string a1_1, .slice A1_2 l1_2.length c1_2, .slice A1_3 l1_3.length c1_3] 38 ?_; intro gb109 hg w4 hbox hb; replace HO0 := aZ_ (Kd.V_below (Kd.V_elderB (kV HO0) gb109 (Nat.le_of_eq hg.symm)) hb); replace HO1_2 := aZ_ (Kd.V_below (Kd.V_elderB (kV HO1_2) gb109 (Nat.le_of_eq hg.symm)) hb); replace HO1_3 := aZ_ (Kd.V_below (Kd.V_elderB (kV HO1_3) gb109 (Nat.le_of_eq hg.symm)) hb); have BK109 := aZ_ (hbox); have GW109 := aZ_ ((by rw [hg]; exact (below_size (bl HB)) : w.heap.size ≤ gb109)); have GE109 := aZ_ ((by rw [hg]; exact (below_size (bl HB)) : w.heap.size ≤ gb109)); replace HB := aZ_ (below_step (bl HB) hb); clear hb hbox hg; obtain ⟨hcz5_0, hcz5_1, hcz5_2, hcz5_3, hfz5_0, hfz5_1, hfz5_2, hfz5_3⟩ := bc4 BK109) | ((with_reducible refine gate_callee (f := 40) rfl ?_); refine goesL_ (some 10) rfl rfl Try.func40 (by kernel_rfl) rfl #[.slice A0 l0.length c0, .agg #[.string a1_0, .string a1_1]] rfl gm_ ?_; (with_reducible refine (chancelref8_Drop.calls k (fun k_ => (((P0_ k_ ∨ P1_2_ k_ ∨ P1_3_ k_) ∨ w.heap.size ≤ k_) ∧ k_ ≠ gb109)) _ _ l0 a1_0 a1_1 t110 _ ?side1 A3.out).mono ?_); (case side1 => exact HO0.out); rintro e w6 ⟨v111, rfl, ho0, hb⟩; refine ⟨_, rfl, ?_⟩; replace HO0 := aZ_ (Kd.V_elder' (kV HO0) (by first | exact Kd.N_base ho0 | exact Kd.R_base ho0) hb); replace HO1_2 := aZ_ (Kd.V_elder' (kV HO1_2) (by first | exact Kd.N_base ho0 | exact Kd.R_base ho0) hb); replace HO1_3 := aZ_ (Kd.V_elder' (kV HO1_3) (by first | exact Kd.N_base ho0 | exact Kd.R_base ho0) hb); have HO112 := aZ_ (Kd.N_lower (Kd.N_mono (ok' := fun k_ => ((P0_ k_ ∨ P1_2_ k_ ∨ P1_3_ k_) ∨ w.heap.size ≤ k_) ∧ k_ ≠ gb109) ho0 (fun k_ hk_ => ⟨Or.elim hk_ (fun hs_ => hs_.1) (fun hn_ => (.inr (Nat.le_trans (below_size (bl1 HB GE109)) hn_))), Or.elim hk_ (fun hs_ => hs_.2) (fun hn_ => (Kd.freshB (g := gb109) (o := .cells #[.string a1_0, .string a1_1, .slice A1_2 l1_2.length c1_2, .slice A1_3 l1_3.length c1_3] 38 (0, 0)) (bk BK109) k_ hn_))⟩)) (below_size (bl1 HB GE109))); replace BK109 := aZ_ (blk_below (g := gb109) (o := .cells #[.string a1_0, .string a1_1, .slice A1_2 l1_2.length c1_2, .slice A1_3 l1_3.length c1_3] 38 (0, 0)) (bk BK109) hb); replace HB := aZ_ (below_step (bl1 HB GE109) hb); (try clear hb); (try clear hb2); (try clear hk); (try clear hi); (try clear ho0)))
 go_loopg [5] k (fun kq v5 w' => ∃ (x5_1 : Int), v5 = .int .i64 x5_1 ∧ Aside0 (chancelref8_Put.l0 kq t110 x5_1 a1_0 a1_1 l1_2 l1_3 = some r) ∧ Aside0 (kq ≤ k) ∧ Aside0 (Kd.N k38 38 w' w.heap.size (fun k_ => ((P0_ k_ ∨ P1_2_ k_ ∨ P1_3_ k_) ∨ w.heap.size ≤ k_) ∧ k_ ≠ gb109) v111 t110) ∧ Aside0 (Kd.V k28 28 w' w.heap.size (fun k_ => ((P0_ k_ ∨ P1_2_ k_ ∨ P1_3_ k_) ∨ w.heap.size ≤ k_) ∧ some k_ ≠ (v111 : Value).ownBlock ∧ k_ ≠ gb109) (.slice A1_2 l1_2.length c1_2) l1_2) ∧ Aside0 (Kd.V k58 58 w' w.heap.size (fun k_ => ((P0_ k_ ∨ P1_2_ k_ ∨ P1_3_ k_) ∨ w.heap.size ≤ k_) ∧ some k_ ≠ (v111 : Value).ownBlock ∧ k_ ≠ gb109) (.slice A1_3 l1_3.length c1_3) l1_3) ∧ Aside0 (w'.heap[gb109]? = some (.cells #[.string a1_0, .string a1_1, (.slice A1_2 l1_2.length c1_2), (.slice A1_3 l1_3.length c1_3)] 38 (0, 0))) ∧ Aside0 (Below w.heap.size w w'))
 case atStart => exact ⟨(0), rf_, H', ⟨Nat.le_refl _⟩, ⟨kN HO112⟩, ⟨by (with_reducible repeat (first | apply Kd.V_alloc | apply Kd.V_drewN | apply Kd.V_drew)); exact Kd.V_mono HO1_2.out (fun _ hk => by first | exact ⟨hk.1.1, ⟨hk.2, hk.1.2⟩⟩ | (simp only [own_nf] at hk ⊢; exact ⟨hk.1.1, ⟨hk.2, hk.1.2⟩⟩))⟩, ⟨by (with_reducible repeat (first | apply Kd.V_alloc | apply Kd.V_drewN | apply Kd.V_drew)); exact Kd.V_mono HO1_3.out (fun _ hk => by first | exact ⟨hk.1.1, ⟨hk.2, hk.1.2⟩⟩ | (simp only [own_nf] at hk ⊢; exact ⟨hk.1.1, ⟨hk.2, hk.1.2⟩⟩))⟩, ⟨bk BK109⟩, ⟨bl1 HB GE109⟩⟩
 case round =>
  clear H'
  try clear c1
  try clear c2
  try clear p2
  try clear c4
  try clear hcz5_0
  try clear hcz5_1
  try clear hcz5_2
  try clear hcz5_3
  try clear hfz5_0
  try clear hfz5_1
  try clear hfz5_2
  try clear hfz5_3
  obtain ⟨x5_1, rfl, HA, HK1, HO_0, HO_110002, HO_110003, BK109, HB⟩ := hrel
  cases gk with
  | zero => exact absurd HA.out (by simp [chancelref8_Put.l0])
  | succ k1 =>
   have H := HA.out
   clear HA
   simp only [chancelref8_Put.l0] at H
   by_cases c7 : x5_1 < (t110.length : Int)
   ·
    rw [if_pos c7] at H
    have c7b0 : decide (x5_1 < (t110.length : Int)) = true := decide_eq_true c7
    clear c7
    by_cases c8 : 0 ≤ x5_1
    ·
     rw [if_pos c8] at H
     have c8b0 : decide (0 ≤ x5_1) = true := decide_eq_true c8
     clear c8
     replace H := Option.bind_eq_some_iff.mp H
     obtain ⟨t114, A90, H⟩ := H
     replace H : (if t114 = true then (chancelref8_Put.l0 k1 t110 (wrap64 (x5_1 + 1)) a1_0 a1_1 l1_2 l1_3) else (if x5_1 ≤ (t110.length : Int) then ((some (t110.take (x5_1 : Int).toNat : List (S38))).bind fun y115 => (if ([] : List (S38)).length + y115.length < 1759218604441 then ((some (([] : List (S38)) ++ y115 : List (S38))).bind fun y120 => (if y120.length < 1759218604441 then ((some (y120 ++ [(⟨(⟨a1_0, a1_1⟩ : S28), l1_2, l1_3⟩ : S38)] : List (S38))).bind fun y123 => ((some (t110.drop (x5_1 : Int).toNat : List (S38))).bind fun y126 => (if y123.length + y126.length < 1759218604441 then (some (y123 ++ y126)) else (none)))) else (none))) else (none))) else (none))) = some r := H
     have A9 := aZ_ A90
     clear A90
     by_cases c10 : t114 = true
     ·
      subst c10
      have H1 : (chancelref8_Put.l0 k1 t110 (wrap64 (x5_1 + 1)) a1_0 a1_1 l1_2 l1_3) = some r := by rw [if_pos rfl] at H; exact H
      clear H
      have H := H1
      clear H1
      have H' := aZ_ H
      clear H
      try go_wp2
      replace HO_0 := aZ_ (Kd.N_drew HO_0.out)
      replace HO_110002 := aZ_ (Kd.V_drew HO_110002.out)
      replace HO_110003 := aZ_ (Kd.V_drew HO_110003.out)
      replace BK109 := aZ_ (blk_drew BK109.out)
      replace HB := aZ_ (below_drew1 HB.out)
      obtain ⟨Ao12, co12, eo12⟩ := Kd.N_slice HO_0.out
      (first | subst eo12 | (injection eo12 with f1_ f2_ f3_; have f4_ := f1_.symm; have f5_ := f3_.symm; clear f1_ f2_ f3_; subst f4_; subst f5_))
      have p113 : 0 ≤ (x5_1 : Int) := of_decide_eq_true asm_
      have q113 : x5_1 < (t110.length : Int) := of_decide_eq_true asm_
      obtain ⟨ad113, A113_2, c113_2, A113_3, c113_3, e113, hx113_0, hx113_1, hx113_2, hx113_3, hl113_2, hi113_2, hl113_3, hi113_3⟩ := at_T38 (Kd.N_reads' HO_0.out).2.2 x5_1 p113 q113
      cases e113
      obtain ⟨ce113, hce113, hMe113, hcc113⟩ := Kd.N_get HO_0.out z38 x5_1 p113 (by first | exact q113 | exact of_decide_eq_true asm_ | (have e_ := (Kd.N_reads' HO_0.out).1; omega))
      obtain ⟨ua113_2, uc113_2, ua113_3, uc113_3, rfl, ul113_2, ge113_2, ul113_3, ge113_3⟩ := k38_openF hMe113
      have hv113_2 := hcc113 2 _ rfl
      rw [add_field _ _ 2 (by omega)] at hv113_2
      replace hv113_2 := Option.some.inj (hv113_2.symm.trans hx113_2)
      injection hv113_2 with hva_ hvn_ hvc_
      rw [hva_] at ge113_2
      rw [hvc_] at ul113_2
      have HL113_2 := aZ_ (show Kd.V k28 28 _ w.heap.size _ _ ((rd_T38 t110 x5_1).f1) from Kd.V_mk ul113_2 ge113_2)
      clear hva_ hvn_ hvc_ ge113_2 ul113_2
      have hv113_3 := hcc113 3 _ rfl
      rw [add_field _ _ 3 (by omega)] at hv113_3
      replace hv113_3 := Option.some.inj (hv113_3.symm.trans hx113_3)
      injection hv113_3 with hva_ hvn_ hvc_
      rw [hva_] at ge113_3
      rw [hvc_] at ul113_3
      have HL113_3 := aZ_ (show Kd.V k58 58 _ w.heap.size _ _ ((rd_T38 t110 x5_1).f2) from Kd.V_mk ul113_3 ge113_3)
      clear hva_ hvn_ hvc_ ge113_3 ul113_3
      clear hcc113 hce113
      have HR113_2 := aZ_ hi113_2
      have HC113_2 := aZ_ hl113_2
      clear hi113_2 hl113_2
      have HR113_3 := aZ_ hi113_3
      have HC113_3 := aZ_ hl113_3
      clear hi113_3 hl113_3
      replace p113 := eq_true p113
      replace q113 := eq_true q113
      refine start_ (n := 14) (S := fun w' => w'.cell? ⟨gb109, 0, none⟩ = some (.string a1_0) ∧ w'.cell? ⟨gb109, 1, none⟩ = some (.string a1_1) ∧ w'.cell? ⟨gb109, 2, none⟩ = some (.slice A1_2 l1_2.length c1_2) ∧ w'.cell? ⟨gb109, 3, none⟩ = some (.slice A1_3 l1_3.length c1_3) ∧ w'.cell? (ad113.add ((x5_1).toNat * 4)) = some (.string ((rd_T38 t110 x5_1).f0.f0)) ∧ w'.cell? ⟨(ad113.add ((x5_1).toNat * 4)).block, (ad113.add ((x5_1).toNat * 4)).off + 1, none⟩ = some (.string ((rd_T38 t110 x5_1).f0.f1)) ∧ w'.cell? ⟨(ad113.add ((x5_1).toNat * 4)).block, (ad113.add ((x5_1).toNat * 4)).off + 2, none⟩ = some (.slice A113_2 ((rd_T38 t110 x5_1).f1).length c113_2) ∧ w'.cell? ⟨(ad113.add ((x5_1).toNat * 4)).block, (ad113.add ((x5_1).toNat * 4)).off + 3, none⟩ = some (.slice A113_3 ((rd_T38 t110 x5_1).f2).length c113_3)) (ds := []) #[false, false, false, false, false, false, false, false, false, false, false, false, false, false] (by kernel_rfl) rfl rfl ⟨(blk_cell BK109.out 0).trans rfl, (blk_cell BK109.out 1).trans rfl, (blk_cell BK109.out 2).trans rfl, (blk_cell BK109.out 3).trans rfl, hx113_0, hx113_1, hx113_2, hx113_3⟩ (fun hHeld => ?_); refine with_tabW chancelref8_Put.tab3 chancelref8_Put.bits3 (fun HT_ HW_ => ?_)
      generalize wr.drew = w11 at HO_0 HO_110002 HO_110003 BK109 HB HL113_2 HL113_3 HR113_2 HR113_3 hx113_0 hx113_1 hx113_2 hx113_3 hHeld ⊢
      refine pS_ 0 11 (fa 14 1) HT_ ?_
      refine pS_ 1 12 (fa 14 3) HT_ ?_
      refine pS_ 2 13 (fa 14 7) HT_ ?_
      refine pS_ 3 14 (fa 14 15) HT_ ?_
      refine pS_ 4 15 (fa 14 31) HT_ ?_
      refine pS_ 5 16 (fa 14 63) HT_ ?_
      refine pS_ 6 17 (fa 14 127) HT_ ?_
      refine pS_ 7 18 (fa 14 255) HT_ ?_
      refine pS_ 8 19 (fa 14 511) HT_ ?_
      refine pS_ 10 21 (fa 14 1535) HT_ ?_
      refine tS_ 9 20 (fa 14 2047) HT_ HW_ hHeld ?_
      refine tS_ 11 22 (fa 14 4095) HT_ HW_ hHeld ?_
      refine one_ (i := 12) (N := some 23) #[true, true, true, true, true, true, true, true, true, true, true, true, true, false] rfl rfl (one_of HT_.out (by kernel_rfl)) (by decide) (fun K hK => ?_)
      refine goes_ Try.func45 (by kernel_rfl) rfl #[.agg #[.string ((rd_T38 t110 x5_1).f0.f0), .string ((rd_T38 t110 x5_1).f0.f1)], .agg #[.string a1_0, .string a1_1]] (by rfl) rfl rfl gm_ ?_
      with_reducible refine (chancelref3_LessUid.calls ((rd_T38 t110 x5_1).f0.f0) ((rd_T38 t110 x5_1).f0.f1) a1_0 a1_1 true _ A9.out).mono ?_
      rintro e w13 ⟨rfl, hb⟩
      have HS4_ := (hbc hb (hHeld.2.2.2.2.1) :)
      have HS5_ := (hbc hb (hHeld.2.2.2.2.2.1) :)
      have HS6_ := (hbc hb (hHeld.2.2.2.2.2.2.1) :)
      have HS7_ := (hbc hb (hHeld.2.2.2.2.2.2.2) :)
      refine ⟨_, rfl, ?_⟩
      replace HO_0 := aZ_ (Kd.N_below (kN HO_0) hb)
      replace HO_110002 := aZ_ (Kd.V_below (kV HO_110002) hb)
      replace HO_110003 := aZ_ (Kd.V_below (kV HO_110003) hb)
      replace HL113_2 := aZ_ (Kd.V_below (kV HL113_2) hb)
      replace HL113_3 := aZ_ (Kd.V_below (kV HL113_3) hb)
      replace BK109 := aZ_ (blk_below (g := gb109) (o := .cells #[.string a1_0, .string a1_1, .slice A1_2 l1_2.length c1_2, .slice A1_3 l1_3.length c1_3] 38 (0, 0)) (bk BK109) hb)
      replace HR113_2 := aZ_ (Kd.C_below (kD HR113_2) hb)
      replace HR113_3 := aZ_ (Kd.C_below (kD HR113_3) hb)
      replace HB := aZ_ (below_step (bl1 HB GE109) hb)
      (try clear hb)
      (try clear hb2)
      (try clear hk)
      (try clear hi)
      refine hK.out _ _ ⟨(blk_cell BK109.out 0).trans rfl, (blk_cell BK109.out 1).trans rfl, (blk_cell BK109.out 2).trans rfl, (blk_cell BK109.out 3).trans rfl, HS4_, HS5_, HS6_, HS7_⟩ (fun hHeld => ?_)
      clear hK K
      refine norm_ (a' := ?_) ?_ ?_
      rotate_left
      ·
       show Act.put _ (some 23) _ = _
       simp only [Act.put, List.setIfInBounds_toArray, List.set_cons_zero, List.set_cons_succ, i64_w, i32_w]
       rfl
      refine pS_ 13 24 (fa 14 16383) HT_ ?_
      refine done_ (done_of HT_.out (by kernel_rfl)) ?_
      try go_wp2
      go_roundg k1
      case measure => have := HK1.out; omega
      case rel => exact ⟨(wrap64 (x5_1 + 1)), rf_, H', ⟨by have := HK1.out; omega⟩, ⟨kN HO_0⟩, ⟨kV HO_110002⟩, ⟨kV HO_110003⟩, ⟨bk BK109⟩, ⟨bl1 HB GE109⟩⟩
     ·
      replace c10 := Bool.eq_false_iff.mpr c10
      subst c10
      have H1 : (if x5_1 ≤ (t110.length : Int) then ((some (t110.take (x5_1 : Int).toNat : List (S38))).bind fun y115 => (if ([] : List (S38)).length + y115.length < 1759218604441 then ((some (([] : List (S38)) ++ y115 : List (S38))).bind fun y120 => (if y120.length < 1759218604441 then ((some (y120 ++ [(⟨(⟨a1_0, a1_1⟩ : S28), l1_2, l1_3⟩ : S38)] : List (S38))).bind fun y123 => ((some (t110.drop (x5_1 : Int).toNat : List (S38))).bind fun y126 => (if y123.length + y126.length < 1759218604441 then (some (y123 ++ y126)) else (none)))) else (none))) else (none))) else (none)) = some r := by rw [if_neg (show ¬ (false = true) by decide)] at H; exact H
      clear H
      have H := H1
      clear H1
      have c14b0 := eq_true (of_decide_eq_true asm_ : 0 ≤ x5_1)
      by_cases c15 : x5_1 ≤ (t110.length : Int)
      ·
       rw [if_pos c15] at H
       have c15b0 := eq_true c15
       have c15b1 : decide (x5_1 ≤ (t110.length : Int)) = true := decide_eq_true c15
       clear c15
       obtain ⟨y115, hy115⟩ : ∃ y_ : List (S38), y_ = (t110.take (x5_1 : Int).toNat) := ⟨_, rfl⟩
       replace H : (if ([] : List (S38)).length + y115.length < 1759218604441 then ((some (([] : List (S38)) ++ y115 : List (S38))).bind fun y120 => (if y120.length < 1759218604441 then ((some (y120 ++ [(⟨(⟨a1_0, a1_1⟩ : S28), l1_2, l1_3⟩ : S38)] : List (S38))).bind fun y123 => ((some (t110.drop (x5_1 : Int).toNat : List (S38))).bind fun y126 => (if y123.length + y126.length < 1759218604441 then (some (y123 ++ y126)) else (none)))) else (none))) else (none)) = some r := by first | (rw [hy115]; with_reducible exact H) | (have H2_ := (Option.bind_some _ _).symm.trans H; rw [hy115]; with_reducible exact H2_) | (have H2_ := (Option.bind_some _ _).symm.trans H; with_reducible exact H2_) | with_reducible exact H | (rw [hy115]; exact H) | exact H
       have Ny115 := aZ_ hy115
       clear hy115
       by_cases c16 : ([] : List (S38)).length + y115.length < 1759218604441
       ·
        rw [if_pos c16] at H
        have LMc16 := aZ_ c16
        clear c16
        obtain ⟨y120, hy120⟩ : ∃ y_ : List (S38), y_ = (([] : List (S38)) ++ y115) := ⟨_, rfl⟩
        replace H : (if y120.length < 1759218604441 then ((some (y120 ++ [(⟨(⟨a1_0, a1_1⟩ : S28), l1_2, l1_3⟩ : S38)] : List (S38))).bind fun y123 => ((some (t110.drop (x5_1 : Int).toNat : List (S38))).bind fun y126 => (if y123.length + y126.length < 1759218604441 then (some (y123 ++ y126)) else (none)))) else (none)) = some r := by first | (rw [hy120]; with_reducible exact H) | (have H2_ := (Option.bind_some _ _).symm.trans H; rw [hy120]; with_reducible exact H2_) | (have H2_ := (Option.bind_some _ _).symm.trans H; with_reducible exact H2_) | with_reducible exact H | (rw [hy120]; exact H) | exact H
        have Ny120 := aZ_ hy120
        clear hy120
        by_cases c17 : y120.length < 1759218604441
        ·
         rw [if_pos c17] at H
         have LMc17 := aZ_ c17
         clear c17
         obtain ⟨y123, hy123⟩ : ∃ y_ : List (S38), y_ = (y120 ++ [(⟨(⟨a1_0, a1_1⟩ : S28), l1_2, l1_3⟩ : S38)]) := ⟨_, rfl⟩
         replace H : ((some (t110.drop (x5_1 : Int).toNat : List (S38))).bind fun y126 => (if y123.length + y126.length < 1759218604441 then (some (y123 ++ y126)) else (none))) = some r := by first | (rw [hy123]; with_reducible exact H) | (have H2_ := (Option.bind_some _ _).symm.trans H; rw [hy123]; with_reducible exact H2_) | (have H2_ := (Option.bind_some _ _).symm.trans H; with_reducible exact H2_) | with_reducible exact H | (rw [hy123]; exact H) | exact H
         have Ny123 := aZ_ hy123
         clear hy123
         have c18b0 := eq_true (of_decide_eq_true asm_ : 0 ≤ x5_1)
         have c19b0 := eq_true (of_decide_eq_true asm_ : x5_1 ≤ (t110.length : Int))
         obtain ⟨y126, hy126⟩ : ∃ y_ : List (S38), y_ = (t110.drop (x5_1 : Int).toNat) := ⟨_, rfl⟩
         replace H : (if y123.length + y126.length < 1759218604441 then (some (y123 ++ y126)) else (none)) = some r := by first | (rw [hy126]; with_reducible exact H) | (have H2_ := (Option.bind_some _ _).symm.trans H; rw [hy126]; with_reducible exact H2_) | (have H2_ := (Option.bind_some _ _).symm.trans H; with_reducible exact H2_) | with_reducible exact H | (rw [hy126]; exact H) | exact H
         have Ny126 := aZ_ hy126
         clear hy126
         by_cases c20 : y123.length + y126.length < 1759218604441
         ·
          rw [if_pos c20] at H
          have LMc20 := aZ_ c20
          clear c20
          obtain ⟨y131, hy131⟩ : ∃ y_ : List (S38), y_ = (y123 ++ y126) := ⟨_, rfl⟩
          replace H : (some y131) = some r := by first | (rw [hy131]; with_reducible exact H) | (have H2_ := (Option.bind_some _ _).symm.trans H; rw [hy131]; with_reducible exact H2_) | (have H2_ := (Option.bind_some _ _).symm.trans H; with_reducible exact H2_) | with_reducible exact H | (rw [hy131]; exact H) | exact H
          have Ny131 := aZ_ hy131
          clear hy131
          obtain rfl := Option.some.inj H
          try go_wp2
          replace HO_0 := aZ_ (Kd.N_drew HO_0.out)
          replace HO_110002 := aZ_ (Kd.V_drew HO_110002.out)
          replace HO_110003 := aZ_ (Kd.V_drew HO_110003.out)
          replace BK109 := aZ_ (blk_drew BK109.out)
          replace HB := aZ_ (below_drew1 HB.out)
          obtain ⟨Ao22, co22, eo22⟩ := Kd.N_slice HO_0.out
          (first | subst eo22 | (injection eo22 with f1_ f2_ f3_; have f4_ := f1_.symm; have f5_ := f3_.symm; clear f1_ f2_ f3_; subst f4_; subst f5_))
          have p113 : 0 ≤ (x5_1 : Int) := of_decide_eq_true asm_
          have q113 : x5_1 < (t110.length : Int) := of_decide_eq_true asm_
          obtain ⟨ad113, A113_2, c113_2, A113_3, c113_3, e113, hx113_0, hx113_1, hx113_2, hx113_3, hl113_2, hi113_2, hl113_3, hi113_3⟩ := at_T38 (Kd.N_reads' HO_0.out).2.2 x5_1 p113 q113
          cases e113
          obtain ⟨ce113, hce113, hMe113, hcc113⟩ := Kd.N_get HO_0.out z38 x5_1 p113 (by first | exact q113 | exact of_decide_eq_true asm_ | (have e_ := (Kd.N_reads' HO_0.out).1; omega))
          obtain ⟨ua113_2, uc113_2, ua113_3, uc113_3, rfl, ul113_2, ge113_2, ul113_3, ge113_3⟩ := k38_openF hMe113
          have hv113_2 := hcc113 2 _ rfl
          rw [add_field _ _ 2 (by omega)] at hv113_2
          replace hv113_2 := Option.some.inj (hv113_2.symm.trans hx113_2)
          injection hv113_2 with hva_ hvn_ hvc_
          rw [hva_] at ge113_2
          rw [hvc_] at ul113_2
          have HL113_2 := aZ_ (show Kd.V k28 28 _ w.heap.size _ _ ((rd_T38 t110 x5_1).f1) from Kd.V_mk ul113_2 ge113_2)
          clear hva_ hvn_ hvc_ ge113_2 ul113_2
          have hv113_3 := hcc113 3 _ rfl
          rw [add_field _ _ 3 (by omega)] at hv113_3
          replace hv113_3 := Option.some.inj (hv113_3.symm.trans hx113_3)
          injection hv113_3 with hva_ hvn_ hvc_
          rw [hva_] at ge113_3
          rw [hvc_] at ul113_3
          have HL113_3 := aZ_ (show Kd.V k58 58 _ w.heap.size _ _ ((rd_T38 t110 x5_1).f2) from Kd.V_mk ul113_3 ge113_3)
          clear hva_ hvn_ hvc_ ge113_3 ul113_3
          clear hcc113 hce113
          have HR113_2 := aZ_ hi113_2
          have HC113_2 := aZ_ hl113_2
          clear hi113_2 hl113_2
          have HR113_3 := aZ_ hi113_3
          have HC113_3 := aZ_ hl113_3
          clear hi113_3 hl113_3
          replace p113 := eq_true p113
          replace q113 := eq_true q113
          refine start_ (n := 14) (S := fun w' => w'.cell? ⟨gb109, 0, none⟩ = some (.string a1_0) ∧ w'.cell? ⟨gb109, 1, none⟩ = some (.string a1_1) ∧ w'.cell? ⟨gb109, 2, none⟩ = some (.slice A1_2 l1_2.length c1_2) ∧ w'.cell? ⟨gb109, 3, none⟩ = some (.slice A1_3 l1_3.length c1_3) ∧ w'.cell? (ad113.add ((x5_1).toNat * 4)) = some (.string ((rd_T38 t110 x5_1).f0.f0)) ∧ w'.cell? ⟨(ad113.add ((x5_1).toNat * 4)).block, (ad113.add ((x5_1).toNat * 4)).off + 1, none⟩ = some (.string ((rd_T38 t110 x5_1).f0.f1)) ∧ w'.cell? ⟨(ad113.add ((x5_1).toNat * 4)).block, (ad113.add ((x5_1).toNat * 4)).off + 2, none⟩ = some (.slice A113_2 ((rd_T38 t110 x5_1).f1).length c113_2) ∧ w'.cell? ⟨(ad113.add ((x5_1).toNat * 4)).block, (ad113.add ((x5_1).toNat * 4)).off + 3, none⟩ = some (.slice A113_3 ((rd_T38 t110 x5_1).f2).length c113_3)) (ds := []) #[false, false, false, false, false, false, false, false, false, false, false, false, false, false] (by kernel_rfl) rfl rfl ⟨(blk_cell BK109.out 0).trans rfl, (blk_cell BK109.out 1).trans rfl, (blk_cell BK109.out 2).trans rfl, (blk_cell BK109.out 3).trans rfl, hx113_0, hx113_1, hx113_2, hx113_3⟩ (fun hHeld => ?_); refine with_tabW chancelref8_Put.tab3 chancelref8_Put.bits3 (fun HT_ HW_ => ?_)
          generalize wr.drew = w21 at HO_0 HO_110002 HO_110003 BK109 HB HL113_2 HL113_3 HR113_2 HR113_3 hx113_0 hx113_1 hx113_2 hx113_3 hHeld ⊢
          refine pS_ 0 11 (fa 14 1) HT_ ?_
          refine pS_ 1 12 (fa 14 3) HT_ ?_
          refine pS_ 2 13 (fa 14 7) HT_ ?_
          refine pS_ 3 14 (fa 14 15) HT_ ?_
          refine pS_ 4 15 (fa 14 31) HT_ ?_
          refine pS_ 5 16 (fa 14 63) HT_ ?_
          refine pS_ 6 17 (fa 14 127) HT_ ?_
          refine pS_ 7 18 (fa 14 255) HT_ ?_
          refine pS_ 8 19 (fa 14 511) HT_ ?_
          refine pS_ 10 21 (fa 14 1535) HT_ ?_
          refine tS_ 9 20 (fa 14 2047) HT_ HW_ hHeld ?_
          refine tS_ 11 22 (fa 14 4095) HT_ HW_ hHeld ?_
          refine one_ (i := 12) (N := some 23) #[true, true, true, true, true, true, true, true, true, true, true, true, true, false] rfl rfl (one_of HT_.out (by kernel_rfl)) (by decide) (fun K hK => ?_)
          refine goes_ Try.func45 (by kernel_rfl) rfl #[.agg #[.string ((rd_T38 t110 x5_1).f0.f0), .string ((rd_T38 t110 x5_1).f0.f1)], .agg #[.string a1_0, .string a1_1]] (by rfl) rfl rfl gm_ ?_
          with_reducible refine (chancelref3_LessUid.calls ((rd_T38 t110 x5_1).f0.f0) ((rd_T38 t110 x5_1).f0.f1) a1_0 a1_1 false _ A9.out).mono ?_
          rintro e w23 ⟨rfl, hb⟩
          have HS4_ := (hbc hb (hHeld.2.2.2.2.1) :)
          have HS5_ := (hbc hb (hHeld.2.2.2.2.2.1) :)
          have HS6_ := (hbc hb (hHeld.2.2.2.2.2.2.1) :)
          have HS7_ := (hbc hb (hHeld.2.2.2.2.2.2.2) :)
          refine ⟨_, rfl, ?_⟩
          replace HO_0 := aZ_ (Kd.N_below (kN HO_0) hb)
          replace HO_110002 := aZ_ (Kd.V_below (kV HO_110002) hb)
          replace HO_110003 := aZ_ (Kd.V_below (kV HO_110003) hb)
          replace HL113_2 := aZ_ (Kd.V_below (kV HL113_2) hb)
          replace HL113_3 := aZ_ (Kd.V_below (kV HL113_3) hb)
          replace BK109 := aZ_ (blk_below (g := gb109) (o := .cells #[.string a1_0, .string a1_1, .slice A1_2 l1_2.length c1_2, .slice A1_3 l1_3.length c1_3] 38 (0, 0)) (bk BK109) hb)
          replace HR113_2 := aZ_ (Kd.C_below (kD HR113_2) hb)
          replace HR113_3 := aZ_ (Kd.C_below (kD HR113_3) hb)
          replace HB := aZ_ (below_step (bl1 HB GE109) hb)
          (try clear hb)
          (try clear hb2)
          (try clear hk)
          (try clear hi)
          refine hK.out _ _ ⟨(blk_cell BK109.out 0).trans rfl, (blk_cell BK109.out 1).trans rfl, (blk_cell BK109.out 2).trans rfl, (blk_cell BK109.out 3).trans rfl, HS4_, HS5_, HS6_, HS7_⟩ (fun hHeld => ?_)
          clear hK K
          refine norm_ (a' := ?_) ?_ ?_
          rotate_left
          ·
           show Act.put _ (some 23) _ = _
           simp only [Act.put, List.setIfInBounds_toArray, List.set_cons_zero, List.set_cons_succ, i64_w, i32_w]
           rfl
          refine pS_ 13 24 (fa 14 16383) HT_ ?_
          refine done_ (done_of HT_.out (by kernel_rfl)) ?_
          have q24 : (x5_1 : Int) ≤ ((t110.length : Int) : Int) := of_decide_eq_true asm_
          obtain ⟨i024, hi024, _, hsz24, _⟩ := info_parts info38
          have hroom24 : t110.length ≤ co22 := (Kd.N_reads' HO_0.out).2.1
          have hC24 : Kd.F k38 _ _ (some ad113) t110.length t110 := (Kd.V_at (base := w.heap.size) (Kd.N_V HO_0.out)).2.2
          have hcut24 := cut_to (P := Try.prog) 25 38 .i64 Try.underlying25 hi024 (some ad113) t110.length co22 x5_1 (of_decide_eq_true asm_) q24 hroom24
          have hr24 := Kd.F_take (m := (x5_1 : Int).toNat) hC24 (by omega)
          have hy24 : y115.length = (x5_1 : Int).toNat := (by rw [Ny115.out, List.length_take]; omega)
          rw [← Ny115.out] at hr24
          rw [← hy24] at hcut24
          have HO119 := aZ_ (show Kd.V k38 38 _ w.heap.size _ (.slice (some ad113) y115.length co22) y115 from Kd.V_mk (by omega) hr24)
          have HC119 := aZ_ (show y115.length ≤ co22 from by omega)
          clear hr24 hC24 hroom24 hi024 hsz24
          have KY24 := aZ_ hy24
          clear hy24
          replace q24 := eq_true q24
          try go_wp2_with (first | ((with_reducible refine gate_builtin (b := .append) (xs := #[.tmp 27, .tmp 30]) rfl ?_); at_builtin; refine Kd.N_append_rows k38 (w0 := w) w.heap.size rfl (.tmp 27) (.tmp 30) 25 38 (.agg #[(.string ⟨#[]⟩), (.string ⟨#[]⟩), (.slice none 0 0), (.slice none 0 0)]) 80 rfl Try.underlying25 info38 rfl (by decide) (by omega) (.slice none 0 0) ([] : List (S38)) y115 _ _ _ (fun k_ => ((P0_ k_ ∨ P1_2_ k_ ∨ P1_3_ k_) ∨ w.heap.size ≤ k_) ∧ k_ ≠ gb109) (fun k_ => ((fun k_ => ((P0_ k_ ∨ P1_2_ k_ ∨ P1_3_ k_) ∨ w.heap.size ≤ k_) ∧ k_ ≠ gb109)) k_ ∧ some k_ ≠ (.slice none 0 0 : Value).ownBlock) rfl rfl ?aO ?aR (fun _ hk => hk) ?aF ?aB ?aS ?aL ?_; (case aR => exact (by skip; exact Kd.V_F (Kd.V_mono (ok' := (fun k_ => ((fun k_ => ((P0_ k_ ∨ P1_2_ k_ ∨ P1_3_ k_) ∨ w.heap.size ≤ k_) ∧ k_ ≠ gb109)) k_ ∧ some k_ ≠ (.slice none 0 0 : Value).ownBlock)) (HO119.out) (fun k_ hk => ⟨⟨hk.1, hk.2⟩, (by simp [Value.ownBlock])⟩)))); (case aB => exact (bl1 HB GE109)); (case aF => exact (fun k_ hk => ⟨(.inr (Nat.le_trans (below_size (bl1 HB GE109)) hk)), Kd.freshB (g := gb109) (o := .cells #[.string a1_0, .string a1_1, .slice A1_2 l1_2.length c1_2, .slice A1_3 l1_3.length c1_3] 38 (0, 0)) (bk BK109) k_ hk⟩)); (case aO => exact ((Kd.N_nil _ _ _ _ (fun k_ => ((P0_ k_ ∨ P1_2_ k_ ∨ P1_3_ k_) ∨ w.heap.size ≤ k_) ∧ k_ ≠ gb109)))); (case aS => exact (below_size (bl1 HB GE109))); (case aL => have := LMc16.out; omega); intro v121 w25 ho hb hg hat; rw [← Ny120.out] at ho; replace HO_0 := aZ_ (Kd.N_afterv (Kd.N_apart_nil (kN HO_0)) hg hat); replace HO_110002 := aZ_ (Kd.V_afterv (Kd.V_apart_nil (kV HO_110002)) hg hat); replace HO_110003 := aZ_ (Kd.V_afterv (Kd.V_apart_nil (kV HO_110003)) hg hat); replace BK109 := aZ_ (blk_grown (g := gb109) (o := .cells #[.string a1_0, .string a1_1, .slice A1_2 l1_2.length c1_2, .slice A1_3 l1_3.length c1_3] 38 (0, 0)) (bk BK109) hg (by simp [Value.ownBlock])); replace HL113_2 := aZ_ (Kd.V_afterv (Kd.V_apart_nil (kV HL113_2)) hg hat); replace HL113_3 := aZ_ (Kd.V_afterv (Kd.V_apart_nil (kV HL113_3)) hg hat); replace HO119 := aZ_ (Kd.V_afterv (Kd.V_apart_nil (kV HO119)) hg hat); replace HB := aZ_ (hb); have HO122 := aZ_ (ho); clear ho hb hg hat; obtain ⟨hcz26_0, hcz26_1, hcz26_2, hcz26_3, hfz26_0, hfz26_1, hfz26_2, hfz26_3⟩ := bc4 BK109) | ((with_reducible refine gate_builtin (b := .append) (xs := #[.tmp 32, .tmp 34]) rfl ?_); at_builtin; refine Kd.N_append k38 (w0 := w) w.heap.size rfl (.tmp 32) (.tmp 34) 25 38 (.agg #[(.string ⟨#[]⟩), (.string ⟨#[]⟩), (.slice none 0 0), (.slice none 0 0)]) 80 rfl Try.underlying25 info38 rfl (by decide) (by omega) v121 y120 (⟨(⟨a1_0, a1_1⟩ : S28), l1_2, l1_3⟩ : S38) [.string a1_0, .string a1_1, .slice A1_2 l1_2.length c1_2, .slice A1_3 l1_3.length c1_3] (fun k_ => ((P0_ k_ ∨ P1_2_ k_ ∨ P1_3_ k_) ∨ w.heap.size ≤ k_) ∧ k_ ≠ gb109) (fun k_ => ((fun k_ => ((P0_ k_ ∨ P1_2_ k_ ∨ P1_3_ k_) ∨ w.heap.size ≤ k_) ∧ k_ ≠ gb109)) k_ ∧ some k_ ≠ (v121 : Value).ownBlock) rfl rfl ?aP (fun _ hk => hk) ?aF ?aO ?aB ?aS ?aL ?_; (case aP => exact (k38_mkF _ _ (⟨(⟨a1_0, a1_1⟩ : S28), l1_2, l1_3⟩ : S38) (Kd.V_reads' (Kd.V_mono (ok' := (fun k_ => ((fun k_ => ((P0_ k_ ∨ P1_2_ k_ ∨ P1_3_ k_) ∨ w.heap.size ≤ k_) ∧ k_ ≠ gb109)) k_ ∧ some k_ ≠ (v121 : Value).ownBlock)) (HO_110002.out) (fun k_ hk => ⟨⟨hk.1.1, hk.1.2.2⟩, hk.2⟩))).2.1 (Kd.V_F (Kd.V_mono (ok' := (fun k_ => ((fun k_ => ((P0_ k_ ∨ P1_2_ k_ ∨ P1_3_ k_) ∨ w.heap.size ≤ k_) ∧ k_ ≠ gb109)) k_ ∧ some k_ ≠ (v121 : Value).ownBlock)) (HO_110002.out) (fun k_ hk => ⟨⟨hk.1.1, hk.1.2.2⟩, hk.2⟩))) (Kd.V_reads' (Kd.V_mono (ok' := (fun k_ => ((fun k_ => ((P0_ k_ ∨ P1_2_ k_ ∨ P1_3_ k_) ∨ w.heap.size ≤ k_) ∧ k_ ≠ gb109)) k_ ∧ some k_ ≠ (v121 : Value).ownBlock)) (HO_110003.out) (fun k_ hk => ⟨⟨hk.1.1, hk.1.2.2⟩, hk.2⟩))).2.1 (Kd.V_F (Kd.V_mono (ok' := (fun k_ => ((fun k_ => ((P0_ k_ ∨ P1_2_ k_ ∨ P1_3_ k_) ∨ w.heap.size ≤ k_) ∧ k_ ≠ gb109)) k_ ∧ some k_ ≠ (v121 : Value).ownBlock)) (HO_110003.out) (fun k_ hk => ⟨⟨hk.1.1, hk.1.2.2⟩, hk.2⟩))))); (case aB => exact (bl1 HB GE109)); (case aF => exact (fun k_ hk => ⟨(.inr (Nat.le_trans (below_size (bl1 HB GE109)) hk)), Kd.freshB (g := gb109) (o := .cells #[.string a1_0, .string a1_1, .slice A1_2 l1_2.length c1_2, .slice A1_3 l1_3.length c1_3] 38 (0, 0)) (bk BK109) k_ hk⟩)); (case aO => exact (kN HO122)); (case aS => exact (below_size (bl1 HB GE109))); (case aL => have := LMc17.out; omega); intro v124 w27 ho hb hg hat; rw [← Ny123.out] at ho; replace HO_0 := aZ_ (Kd.N_afterv (ok := (fun k_ => ((P0_ k_ ∨ P1_2_ k_ ∨ P1_3_ k_) ∨ w.heap.size ≤ k_) ∧ k_ ≠ gb109)) (kN HO_0) hg hat); replace HO_110002 := aZ_ (Kd.V_afterv (ok := (fun k_ => ((P0_ k_ ∨ P1_2_ k_ ∨ P1_3_ k_) ∨ w.heap.size ≤ k_) ∧ some k_ ≠ (.slice (some ad113) t110.length co22 : Value).ownBlock ∧ k_ ≠ gb109)) (kV HO_110002) hg hat); replace HO_110003 := aZ_ (Kd.V_afterv (ok := (fun k_ => ((P0_ k_ ∨ P1_2_ k_ ∨ P1_3_ k_) ∨ w.heap.size ≤ k_) ∧ some k_ ≠ (.slice (some ad113) t110.length co22 : Value).ownBlock ∧ k_ ≠ gb109)) (kV HO_110003) hg hat); replace BK109 := aZ_ (blk_grown (g := gb109) (o := .cells #[.string a1_0, .string a1_1, .slice A1_2 l1_2.length c1_2, .slice A1_3 l1_3.length c1_3] 38 (0, 0)) (bk BK109) hg (Kd.N_away HO122.out (fun _ hk => hk.2))); replace HL113_2 := aZ_ (Kd.V_afterv (ok := (fun k_ => ((P0_ k_ ∨ P1_2_ k_ ∨ P1_3_ k_) ∨ w.heap.size ≤ k_) ∧ some k_ ≠ (.slice (some ad113) t110.length co22 : Value).ownBlock ∧ k_ ≠ gb109)) (by (with_reducible repeat (first | apply Kd.V_alloc | apply Kd.V_drewN | apply Kd.V_drew)); exact Kd.V_mono HL113_2.out (fun _ hk => ⟨⟨hk.1.1.1, ⟨hk.1.2, hk.1.1.2⟩⟩, hk.2⟩)) hg hat); replace HL113_3 := aZ_ (Kd.V_afterv (ok := (fun k_ => ((P0_ k_ ∨ P1_2_ k_ ∨ P1_3_ k_) ∨ w.heap.size ≤ k_) ∧ some k_ ≠ (.slice (some ad113) t110.length co22 : Value).ownBlock ∧ k_ ≠ gb109)) (by (with_reducible repeat (first | apply Kd.V_alloc | apply Kd.V_drewN | apply Kd.V_drew)); exact Kd.V_mono HL113_3.out (fun _ hk => ⟨⟨hk.1.1.1, ⟨hk.1.2, hk.1.1.2⟩⟩, hk.2⟩)) hg hat); replace HO119 := aZ_ (Kd.V_afterv (ok := (fun k_ => ((P0_ k_ ∨ P1_2_ k_ ∨ P1_3_ k_) ∨ w.heap.size ≤ k_) ∧ k_ ≠ gb109)) (kV HO119) hg hat); replace HB := aZ_ (hb); have HO125 := aZ_ (ho); clear HO122; clear ho hb hg hat; have q28 : (x5_1 : Int) ≤ ((t110.length : Int) : Int) := of_decide_eq_true asm_; obtain ⟨i028, hi028, _, hsz28, _⟩ := info_parts info38; have hroom28 : t110.length ≤ co22 := (Kd.N_reads' HO_0.out).2.1; have hC28 : Kd.F k38 _ _ (some ad113) t110.length t110 := (Kd.V_at (base := w.heap.size) (Kd.N_V HO_0.out)).2.2; have q028 : (0 : Int) ≤ (x5_1 : Int) := of_decide_eq_true asm_; have hcut28 := cut_from (P := Try.prog) 25 38 .i64 Try.underlying25 hi028 4 hsz28 (some ad113) t110.length co22 x5_1 q028 q28; have hr28 := Kd.F_cut (m := (x5_1 : Int).toNat) (c := co22) hC28 (by omega) hroom28; obtain ⟨A28, hA28⟩ : ∃ A1, A1 = (if co22 = (x5_1 : Int).toNat then (some ad113) else ((some ad113) : Option Addr).map (·.add ((x5_1 : Int).toNat * 4))) := ⟨_, rfl⟩; obtain ⟨c28, hc28⟩ : ∃ c1, c1 = co22 - (x5_1 : Int).toNat := ⟨_, rfl⟩; have hy28 : y126.length = t110.length - (x5_1 : Int).toNat := (by rw [Ny126.out, List.length_drop] <;> omega); rw [show (t110).drop (x5_1 : Int).toNat = y126 from Ny126.out.symm] at hr28; replace hr28 : Kd.F k38 _ _ A28 y126.length y126 := (by rw [hA28]; exact hr28); rw [← hy28, ← hA28, ← hc28] at hcut28; have HO130 := aZ_ (show Kd.V k38 38 _ w.heap.size _ (.slice A28 y126.length c28) y126 from Kd.V_mk (by rw [hy28, hc28]; exact Nat.sub_le_sub_right hroom28 _) hr28); have HC130 := aZ_ (show y126.length ≤ c28 from by rw [hy28, hc28]; exact Nat.sub_le_sub_right hroom28 _); clear hr28 hC28 hroom28 hi028 hsz28 hc28; have KY28 := aZ_ hy28; have KA28 := aZ_ hA28; clear hy28 hA28; replace q28 := eq_true q28) | ((with_reducible refine gate_builtin (b := .append) (xs := #[.tmp 36, .tmp 39]) rfl ?_); at_builtin; refine Kd.N_append_rows k38 (w0 := w) w.heap.size rfl (.tmp 36) (.tmp 39) 25 38 (.agg #[(.string ⟨#[]⟩), (.string ⟨#[]⟩), (.slice none 0 0), (.slice none 0 0)]) 80 rfl Try.underlying25 info38 rfl (by decide) (by omega) v124 y123 y126 _ _ _ (fun k_ => ((P0_ k_ ∨ P1_2_ k_ ∨ P1_3_ k_) ∨ w.heap.size ≤ k_) ∧ k_ ≠ gb109) (fun k_ => ((fun k_ => ((P0_ k_ ∨ P1_2_ k_ ∨ P1_3_ k_) ∨ w.heap.size ≤ k_) ∧ k_ ≠ gb109)) k_ ∧ some k_ ≠ (v124 : Value).ownBlock) rfl rfl ?aO ?aR (fun _ hk => hk) ?aF ?aB ?aS ?aL ?_; (case aR => exact (by skip; exact Kd.V_F (Kd.V_mono (ok' := (fun k_ => ((fun k_ => ((P0_ k_ ∨ P1_2_ k_ ∨ P1_3_ k_) ∨ w.heap.size ≤ k_) ∧ k_ ≠ gb109)) k_ ∧ some k_ ≠ (v124 : Value).ownBlock)) (HO130.out) (fun k_ hk => ⟨⟨hk.1.1, hk.1.2⟩, hk.2⟩)))); (case aB => exact (bl1 HB GE109)); (case aF => exact (fun k_ hk => ⟨(.inr (Nat.le_trans (below_size (bl1 HB GE109)) hk)), Kd.freshB (g := gb109) (o := .cells #[.string a1_0, .string a1_1, .slice A1_2 l1_2.length c1_2, .slice A1_3 l1_3.length c1_3] 38 (0, 0)) (bk BK109) k_ hk⟩)); (case aO => exact (kN HO125)); (case aS => exact (below_size (bl1 HB GE109))); (case aL => have := LMc20.out; omega); intro v132 w29 ho hb hg hat; rw [← Ny131.out] at ho; replace HO_0 := aZ_ (Kd.N_afterv (ok := (fun k_ => ((P0_ k_ ∨ P1_2_ k_ ∨ P1_3_ k_) ∨ w.heap.size ≤ k_) ∧ k_ ≠ gb109)) (kN HO_0) hg hat); replace HO_110002 := aZ_ (Kd.V_afterv (ok := (fun k_ => ((P0_ k_ ∨ P1_2_ k_ ∨ P1_3_ k_) ∨ w.heap.size ≤ k_) ∧ some k_ ≠ (.slice (some ad113) t110.length co22 : Value).ownBlock ∧ k_ ≠ gb109)) (kV HO_110002) hg hat); replace HO_110003 := aZ_ (Kd.V_afterv (ok := (fun k_ => ((P0_ k_ ∨ P1_2_ k_ ∨ P1_3_ k_) ∨ w.heap.size ≤ k_) ∧ some k_ ≠ (.slice (some ad113) t110.length co22 : Value).ownBlock ∧ k_ ≠ gb109)) (kV HO_110003) hg hat); replace BK109 := aZ_ (blk_grown (g := gb109) (o := .cells #[.string a1_0, .string a1_1, .slice A1_2 l1_2.length c1_2, .slice A1_3 l1_3.length c1_3] 38 (0, 0)) (bk BK109) hg (Kd.N_away HO125.out (fun _ hk => hk.2))); replace HL113_2 := aZ_ (Kd.V_afterv (ok := (fun k_ => ((P0_ k_ ∨ P1_2_ k_ ∨ P1_3_ k_) ∨ w.heap.size ≤ k_) ∧ some k_ ≠ (.slice (some ad113) t110.length co22 : Value).ownBlock ∧ k_ ≠ gb109)) (kV HL113_2) hg hat); replace HL113_3 := aZ_ (Kd.V_afterv (ok := (fun k_ => ((P0_ k_ ∨ P1_2_ k_ ∨ P1_3_ k_) ∨ w.heap.size ≤ k_) ∧ some k_ ≠ (.slice (some ad113) t110.length co22 : Value).ownBlock ∧ k_ ≠ gb109)) (kV HL113_3) hg hat); replace HO119 := aZ_ (Kd.V_afterv (ok := (fun k_ => ((P0_ k_ ∨ P1_2_ k_ ∨ P1_3_ k_) ∨ w.heap.size ≤ k_) ∧ k_ ≠ gb109)) (kV HO119) hg hat); replace HO130 := aZ_ (Kd.V_afterv (ok := (fun k_ => ((P0_ k_ ∨ P1_2_ k_ ∨ P1_3_ k_) ∨ w.heap.size ≤ k_) ∧ k_ ≠ gb109)) (kV HO130) hg hat); replace HB := aZ_ (hb); have HO133 := aZ_ (ho); clear HO125; clear ho hb hg hat))
          go_ret
          exact ⟨_, by first | rfl | (simp [errW_none, errW_some] <;> rfl) | (simp [*, errW_none, errW_some] <;> rfl), by (with_reducible repeat (first | apply Kd.N_alloc | apply Kd.N_drewN | apply Kd.N_drew)); exact Kd.N_mono HO133.out (fun _ hk => hk.1), bl1 HB GE109⟩
         ·
          rw [if_neg c20] at H
          exact absurd H (by simp)
        ·
         rw [if_neg c17] at H
         exact absurd H (by simp)
       ·
        rw [if_neg c16] at H
        exact absurd H (by simp)
      ·
       rw [if_neg c15] at H
       exact absurd H (by simp)
    ·
     rw [if_neg c8] at H
     exact absurd H (by simp)
   ·
    rw [if_neg c7] at H
    have c7b0 : decide (x5_1 < (t110.length : Int)) = false := decide_eq_false c7
    clear c7
    by_cases c30 : 0 ≤ x5_1
    ·
     rw [if_pos c30] at H
     have c30b0 := eq_true c30
     have c30b1 : decide (0 ≤ x5_1) = true := decide_eq_true c30
     clear c30
     by_cases c31 : x5_1 ≤ (t110.length : Int)
     ·
      rw [if_pos c31] at H
      have c31b0 := eq_true c31
      have c31b1 : decide (x5_1 ≤ (t110.length : Int)) = true := decide_eq_true c31
      clear c31
      obtain ⟨y134, hy134⟩ : ∃ y_ : List (S38), y_ = (t110.take (x5_1 : Int).toNat) := ⟨_, rfl⟩
      replace H : (if ([] : List (S38)).length + y134.length < 1759218604441 then ((some (([] : List (S38)) ++ y134 : List (S38))).bind fun y139 => (if y139.length < 1759218604441 then ((some (y139 ++ [(⟨(⟨a1_0, a1_1⟩ : S28), l1_2, l1_3⟩ : S38)] : List (S38))).bind fun y142 => ((some (t110.drop (x5_1 : Int).toNat : List (S38))).bind fun y145 => (if y142.length + y145.length < 1759218604441 then (some (y142 ++ y145)) else (none)))) else (none))) else (none)) = some r := by first | (rw [hy134]; with_reducible exact H) | (have H2_ := (Option.bind_some _ _).symm.trans H; rw [hy134]; with_reducible exact H2_) | (have H2_ := (Option.bind_some _ _).symm.trans H; with_reducible exact H2_) | with_reducible exact H | (rw [hy134]; exact H) | exact H
      have Ny134 := aZ_ hy134
      clear hy134
      by_cases c32 : ([] : List (S38)).length + y134.length < 1759218604441
      ·
       rw [if_pos c32] at H
       have LMc32 := aZ_ c32
       clear c32
       obtain ⟨y139, hy139⟩ : ∃ y_ : List (S38), y_ = (([] : List (S38)) ++ y134) := ⟨_, rfl⟩
       replace H : (if y139.length < 1759218604441 then ((some (y139 ++ [(⟨(⟨a1_0, a1_1⟩ : S28), l1_2, l1_3⟩ : S38)] : List (S38))).bind fun y142 => ((some (t110.drop (x5_1 : Int).toNat : List (S38))).bind fun y145 => (if y142.length + y145.length < 1759218604441 then (some (y142 ++ y145)) else (none)))) else (none)) = some r := by first | (rw [hy139]; with_reducible exact H) | (have H2_ := (Option.bind_some _ _).symm.trans H; rw [hy139]; with_reducible exact H2_) | (have H2_ := (Option.bind_some _ _).symm.trans H; with_reducible exact H2_) | with_reducible exact H | (rw [hy139]; exact H) | exact H
       have Ny139 := aZ_ hy139
       clear hy139
       by_cases c33 : y139.length < 1759218604441
       ·
        rw [if_pos c33] at H
        have LMc33 := aZ_ c33
        clear c33
        obtain ⟨y142, hy142⟩ : ∃ y_ : List (S38), y_ = (y139 ++ [(⟨(⟨a1_0, a1_1⟩ : S28), l1_2, l1_3⟩ : S38)]) := ⟨_, rfl⟩
        replace H : ((some (t110.drop (x5_1 : Int).toNat : List (S38))).bind fun y145 => (if y142.length + y145.length < 1759218604441 then (some (y142 ++ y145)) else (none))) = some r := by first | (rw [hy142]; with_reducible exact H) | (have H2_ := (Option.bind_some _ _).symm.trans H; rw [hy142]; with_reducible exact H2_) | (have H2_ := (Option.bind_some _ _).symm.trans H; with_reducible exact H2_) | with_reducible exact H | (rw [hy142]; exact H) | exact H
        have Ny142 := aZ_ hy142
        clear hy142
        have c34b0 := eq_true (of_decide_eq_true asm_ : 0 ≤ x5_1)
        have c35b0 := eq_true (of_decide_eq_true asm_ : x5_1 ≤ (t110.length : Int))
        obtain ⟨y145, hy145⟩ : ∃ y_ : List (S38), y_ = (t110.drop (x5_1 : Int).toNat) := ⟨_, rfl⟩
        replace H : (if y142.length + y145.length < 1759218604441 then (some (y142 ++ y145)) else (none)) = some r := by first | (rw [hy145]; with_reducible exact H) | (have H2_ := (Option.bind_some _ _).symm.trans H; rw [hy145]; with_reducible exact H2_) | (have H2_ := (Option.bind_some _ _).symm.trans H; with_reducible exact H2_) | with_reducible exact H | (rw [hy145]; exact H) | exact H
        have Ny145 := aZ_ hy145
        clear hy145
        by_cases c36 : y142.length + y145.length < 1759218604441
        ·
         rw [if_pos c36] at H
         have LMc36 := aZ_ c36
         clear c36
         obtain ⟨y150, hy150⟩ : ∃ y_ : List (S38), y_ = (y142 ++ y145) := ⟨_, rfl⟩
         replace H : (some y150) = some r := by first | (rw [hy150]; with_reducible exact H) | (have H2_ := (Option.bind_some _ _).symm.trans H; rw [hy150]; with_reducible exact H2_) | (have H2_ := (Option.bind_some _ _).symm.trans H; with_reducible exact H2_) | with_reducible exact H | (rw [hy150]; exact H) | exact H
         have Ny150 := aZ_ hy150
         clear hy150
         obtain rfl := Option.some.inj H
         try go_wp2
         replace HO_0 := aZ_ (Kd.N_drew HO_0.out)
         replace HO_110002 := aZ_ (Kd.V_drew HO_110002.out)
         replace HO_110003 := aZ_ (Kd.V_drew HO_110003.out)
         replace BK109 := aZ_ (blk_drew BK109.out)
         replace HB := aZ_ (below_drew1 HB.out)
         obtain ⟨Ao38, co38, eo38⟩ := Kd.N_slice HO_0.out
         (first | subst eo38 | (injection eo38 with f1_ f2_ f3_; have f4_ := f1_.symm; have f5_ := f3_.symm; clear f1_ f2_ f3_; subst f4_; subst f5_))
         refine start_ (n := 14) (S := fun w' => True) (ds := []) #[false, false, false, false, false, false, false, false, false, false, false, false, false, false] (by kernel_rfl) rfl rfl trivial (fun hHeld => ?_); refine with_tabW chancelref8_Put.tab3 chancelref8_Put.bits3 (fun HT_ HW_ => ?_)
         generalize wr.drew = w37 at HO_0 HO_110002 HO_110003 BK109 HB hHeld ⊢
         refine pS_ 0 11 (fa 14 1) HT_ ?_
         refine pS_ 1 12 (fa 14 3) HT_ ?_
         refine pS_ 2 13 (fa 14 7) HT_ ?_
         refine pS_ 3 14 (fa 14 15) HT_ ?_
         refine pS_ 4 15 (fa 14 31) HT_ ?_
         refine pU_ 5 16 (fa 14 63) HT_ ?_
         refine pU_ 6 17 (fa 14 127) HT_ ?_
         refine pU_ 7 18 (fa 14 255) HT_ ?_
         refine pU_ 8 19 (fa 14 511) HT_ ?_
         refine pU_ 9 20 (fa 14 1023) HT_ ?_
         refine pU_ 10 21 (fa 14 2047) HT_ ?_
         refine pU_ 11 22 (fa 14 4095) HT_ ?_
         refine pU_ 12 23 (fa 14 8191) HT_ ?_
         refine pS_ 13 24 (fa 14 16383) HT_ ?_
         refine done_ (done_of HT_.out (by kernel_rfl)) ?_
         have q39 : (x5_1 : Int) ≤ ((t110.length : Int) : Int) := of_decide_eq_true asm_
         obtain ⟨i039, hi039, _, hsz39, _⟩ := info_parts info38
         have hroom39 : t110.length ≤ co38 := (Kd.N_reads' HO_0.out).2.1
         have hC39 : Kd.F k38 _ _ Ao38 t110.length t110 := (Kd.V_at (base := w.heap.size) (Kd.N_V HO_0.out)).2.2
         have hcut39 := cut_to (P := Try.prog) 25 38 .i64 Try.underlying25 hi039 Ao38 t110.length co38 x5_1 (of_decide_eq_true asm_) q39 hroom39
         have hr39 := Kd.F_take (m := (x5_1 : Int).toNat) hC39 (by omega)
         have hy39 : y134.length = (x5_1 : Int).toNat := (by rw [Ny134.out, List.length_take]; omega)
         rw [← Ny134.out] at hr39
         rw [← hy39] at hcut39
         have HO138 := aZ_ (show Kd.V k38 38 _ w.heap.size _ (.slice Ao38 y134.length co38) y134 from Kd.V_mk (by omega) hr39)
         have HC138 := aZ_ (show y134.length ≤ co38 from by omega)
         clear hr39 hC39 hroom39 hi039 hsz39
         have KY39 := aZ_ hy39
         clear hy39
         replace q39 := eq_true q39
         try go_wp2_with (first | ((with_reducible refine gate_builtin (b := .append) (xs := #[.tmp 27, .tmp 30]) rfl ?_); at_builtin; refine Kd.N_append_rows k38 (w0 := w) w.heap.size rfl (.tmp 27) (.tmp 30) 25 38 (.agg #[(.string ⟨#[]⟩), (.string ⟨#[]⟩), (.slice none 0 0), (.slice none 0 0)]) 80 rfl Try.underlying25 info38 rfl (by decide) (by omega) (.slice none 0 0) ([] : List (S38)) y134 _ _ _ (fun k_ => ((P0_ k_ ∨ P1_2_ k_ ∨ P1_3_ k_) ∨ w.heap.size ≤ k_) ∧ k_ ≠ gb109) (fun k_ => ((fun k_ => ((P0_ k_ ∨ P1_2_ k_ ∨ P1_3_ k_) ∨ w.heap.size ≤ k_) ∧ k_ ≠ gb109)) k_ ∧ some k_ ≠ (.slice none 0 0 : Value).ownBlock) rfl rfl ?aO ?aR (fun _ hk => hk) ?aF ?aB ?aS ?aL ?_; (case aR => exact (by skip; exact Kd.V_F (Kd.V_mono (ok' := (fun k_ => ((fun k_ => ((P0_ k_ ∨ P1_2_ k_ ∨ P1_3_ k_) ∨ w.heap.size ≤ k_) ∧ k_ ≠ gb109)) k_ ∧ some k_ ≠ (.slice none 0 0 : Value).ownBlock)) (HO138.out) (fun k_ hk => ⟨⟨hk.1, hk.2⟩, (by simp [Value.ownBlock])⟩)))); (case aB => exact (bl1 HB GE109)); (case aF => exact (fun k_ hk => ⟨(.inr (Nat.le_trans (below_size (bl1 HB GE109)) hk)), Kd.freshB (g := gb109) (o := .cells #[.string a1_0, .string a1_1, .slice A1_2 l1_2.length c1_2, .slice A1_3 l1_3.length c1_3] 38 (0, 0)) (bk BK109) k_ hk⟩)); (case aO => exact ((Kd.N_nil _ _ _ _ (fun k_ => ((P0_ k_ ∨ P1_2_ k_ ∨ P1_3_ k_) ∨ w.heap.size ≤ k_) ∧ k_ ≠ gb109)))); (case aS => exact (below_size (bl1 HB GE109))); (case aL => have := LMc32.out; omega); intro v140 w40 ho hb hg hat; rw [← Ny139.out] at ho; replace HO_0 := aZ_ (Kd.N_afterv (Kd.N_apart_nil (kN HO_0)) hg hat); replace HO_110002 := aZ_ (Kd.V_afterv (Kd.V_apart_nil (kV HO_110002)) hg hat); replace HO_110003 := aZ_ (Kd.V_afterv (Kd.V_apart_nil (kV HO_110003)) hg hat); replace BK109 := aZ_ (blk_grown (g := gb109) (o := .cells #[.string a1_0, .string a1_1, .slice A1_2 l1_2.length c1_2, .slice A1_3 l1_3.length c1_3] 38 (0, 0)) (bk BK109) hg (by simp [Value.ownBlock])); replace HO138 := aZ_ (Kd.V_afterv (Kd.V_apart_nil (kV HO138)) hg hat); replace HB := aZ_ (hb); have HO141 := aZ_ (ho); clear ho hb hg hat; obtain ⟨hcz41_0, hcz41_1, hcz41_2, hcz41_3, hfz41_0, hfz41_1, hfz41_2, hfz41_3⟩ := bc4 BK109) | ((with_reducible refine gate_builtin (b := .append) (xs := #[.tmp 32, .tmp 34]) rfl ?_); at_builtin; refine Kd.N_append k38 (w0 := w) w.heap.size rfl (.tmp 32) (.tmp 34) 25 38 (.agg #[(.string ⟨#[]⟩), (.string ⟨#[]⟩), (.slice none 0 0), (.slice none 0 0)]) 80 rfl Try.underlying25 info38 rfl (by decide) (by omega) v140 y139 (⟨(⟨a1_0, a1_1⟩ : S28), l1_2, l1_3⟩ : S38) [.string a1_0, .string a1_1, .slice A1_2 l1_2.length c1_2, .slice A1_3 l1_3.length c1_3] (fun k_ => ((P0_ k_ ∨ P1_2_ k_ ∨ P1_3_ k_) ∨ w.heap.size ≤ k_) ∧ k_ ≠ gb109) (fun k_ => ((fun k_ => ((P0_ k_ ∨ P1_2_ k_ ∨ P1_3_ k_) ∨ w.heap.size ≤ k_) ∧ k_ ≠ gb109)) k_ ∧ some k_ ≠ (v140 : Value).ownBlock) rfl rfl ?aP (fun _ hk => hk) ?aF ?aO ?aB ?aS ?aL ?_; (case aP => exact (k38_mkF _ _ (⟨(⟨a1_0, a1_1⟩ : S28), l1_2, l1_3⟩ : S38) (Kd.V_reads' (Kd.V_mono (ok' := (fun k_ => ((fun k_ => ((P0_ k_ ∨ P1_2_ k_ ∨ P1_3_ k_) ∨ w.heap.size ≤ k_) ∧ k_ ≠ gb109)) k_ ∧ some k_ ≠ (v140 : Value).ownBlock)) (HO_110002.out) (fun k_ hk => ⟨⟨hk.1.1, hk.1.2.2⟩, hk.2⟩))).2.1 (Kd.V_F (Kd.V_mono (ok' := (fun k_ => ((fun k_ => ((P0_ k_ ∨ P1_2_ k_ ∨ P1_3_ k_) ∨ w.heap.size ≤ k_) ∧ k_ ≠ gb109)) k_ ∧ some k_ ≠ (v140 : Value).ownBlock)) (HO_110002.out) (fun k_ hk => ⟨⟨hk.1.1, hk.1.2.2⟩, hk.2⟩))) (Kd.V_reads' (Kd.V_mono (ok' := (fun k_ => ((fun k_ => ((P0_ k_ ∨ P1_2_ k_ ∨ P1_3_ k_) ∨ w.heap.size ≤ k_) ∧ k_ ≠ gb109)) k_ ∧ some k_ ≠ (v140 : Value).ownBlock)) (HO_110003.out) (fun k_ hk => ⟨⟨hk.1.1, hk.1.2.2⟩, hk.2⟩))).2.1 (Kd.V_F (Kd.V_mono (ok' := (fun k_ => ((fun k_ => ((P0_ k_ ∨ P1_2_ k_ ∨ P1_3_ k_) ∨ w.heap.size ≤ k_) ∧ k_ ≠ gb109)) k_ ∧ some k_ ≠ (v140 : Value).ownBlock)) (HO_110003.out) (fun k_ hk => ⟨⟨hk.1.1, hk.1.2.2⟩, hk.2⟩))))); (case aB => exact (bl1 HB GE109)); (case aF => exact (fun k_ hk => ⟨(.inr (Nat.le_trans (below_size (bl1 HB GE109)) hk)), Kd.freshB (g := gb109) (o := .cells #[.string a1_0, .string a1_1, .slice A1_2 l1_2.length c1_2, .slice A1_3 l1_3.length c1_3] 38 (0, 0)) (bk BK109) k_ hk⟩)); (case aO => exact (kN HO141)); (case aS => exact (below_size (bl1 HB GE109))); (case aL => have := LMc33.out; omega); intro v143 w42 ho hb hg hat; rw [← Ny142.out] at ho; replace HO_0 := aZ_ (Kd.N_afterv (ok := (fun k_ => ((P0_ k_ ∨ P1_2_ k_ ∨ P1_3_ k_) ∨ w.heap.size ≤ k_) ∧ k_ ≠ gb109)) (kN HO_0) hg hat); replace HO_110002 := aZ_ (Kd.V_afterv (ok := (fun k_ => ((P0_ k_ ∨ P1_2_ k_ ∨ P1_3_ k_) ∨ w.heap.size ≤ k_) ∧ some k_ ≠ (.slice Ao38 t110.length co38 : Value).ownBlock ∧ k_ ≠ gb109)) (kV HO_110002) hg hat); replace HO_110003 := aZ_ (Kd.V_afterv (ok := (fun k_ => ((P0_ k_ ∨ P1_2_ k_ ∨ P1_3_ k_) ∨ w.heap.size ≤ k_) ∧ some k_ ≠ (.slice Ao38 t110.length co38 : Value).ownBlock ∧ k_ ≠ gb109)) (kV HO_110003) hg hat); replace BK109 := aZ_ (blk_grown (g := gb109) (o := .cells #[.string a1_0, .string a1_1, .slice A1_2 l1_2.length c1_2, .slice A1_3 l1_3.length c1_3] 38 (0, 0)) (bk BK109) hg (Kd.N_away HO141.out (fun _ hk => hk.2))); replace HO138 := aZ_ (Kd.V_afterv (ok := (fun k_ => ((P0_ k_ ∨ P1_2_ k_ ∨ P1_3_ k_) ∨ w.heap.size ≤ k_) ∧ k_ ≠ gb109)) (kV HO138) hg hat); replace HB := aZ_ (hb); have HO144 := aZ_ (ho); clear HO141; clear ho hb hg hat; have q43 : (x5_1 : Int) ≤ ((t110.length : Int) : Int) := of_decide_eq_true asm_; obtain ⟨i043, hi043, _, hsz43, _⟩ := info_parts info38; have hroom43 : t110.length ≤ co38 := (Kd.N_reads' HO_0.out).2.1; have hC43 : Kd.F k38 _ _ Ao38 t110.length t110 := (Kd.V_at (base := w.heap.size) (Kd.N_V HO_0.out)).2.2; have q043 : (0 : Int) ≤ (x5_1 : Int) := of_decide_eq_true asm_; have hcut43 := cut_from (P := Try.prog) 25 38 .i64 Try.underlying25 hi043 4 hsz43 Ao38 t110.length co38 x5_1 q043 q43; have hr43 := Kd.F_cut (m := (x5_1 : Int).toNat) (c := co38) hC43 (by omega) hroom43; obtain ⟨A43, hA43⟩ : ∃ A1, A1 = (if co38 = (x5_1 : Int).toNat then Ao38 else (Ao38 : Option Addr).map (·.add ((x5_1 : Int).toNat * 4))) := ⟨_, rfl⟩; obtain ⟨c43, hc43⟩ : ∃ c1, c1 = co38 - (x5_1 : Int).toNat := ⟨_, rfl⟩; have hy43 : y145.length = t110.length - (x5_1 : Int).toNat := (by rw [Ny145.out, List.length_drop] <;> omega); rw [show (t110).drop (x5_1 : Int).toNat = y145 from Ny145.out.symm] at hr43; replace hr43 : Kd.F k38 _ _ A43 y145.length y145 := (by rw [hA43]; exact hr43); rw [← hy43, ← hA43, ← hc43] at hcut43; have HO149 := aZ_ (show Kd.V k38 38 _ w.heap.size _ (.slice A43 y145.length c43) y145 from Kd.V_mk (by rw [hy43, hc43]; exact Nat.sub_le_sub_right hroom43 _) hr43); have HC149 := aZ_ (show y145.length ≤ c43 from by rw [hy43, hc43]; exact Nat.sub_le_sub_right hroom43 _); clear hr43 hC43 hroom43 hi043 hsz43 hc43; have KY43 := aZ_ hy43; have KA43 := aZ_ hA43; clear hy43 hA43; replace q43 := eq_true q43) | ((with_reducible refine gate_builtin (b := .append) (xs := #[.tmp 36, .tmp 39]) rfl ?_); at_builtin; refine Kd.N_append_rows k38 (w0 := w) w.heap.size rfl (.tmp 36) (.tmp 39) 25 38 (.agg #[(.string ⟨#[]⟩), (.string ⟨#[]⟩), (.slice none 0 0), (.slice none 0 0)]) 80 rfl Try.underlying25 info38 rfl (by decide) (by omega) v143 y142 y145 _ _ _ (fun k_ => ((P0_ k_ ∨ P1_2_ k_ ∨ P1_3_ k_) ∨ w.heap.size ≤ k_) ∧ k_ ≠ gb109) (fun k_ => ((fun k_ => ((P0_ k_ ∨ P1_2_ k_ ∨ P1_3_ k_) ∨ w.heap.size ≤ k_) ∧ k_ ≠ gb109)) k_ ∧ some k_ ≠ (v143 : Value).ownBlock) rfl rfl ?aO ?aR (fun _ hk => hk) ?aF ?aB ?aS ?aL ?_; (case aR => exact (by skip; exact Kd.V_F (Kd.V_mono (ok' := (fun k_ => ((fun k_ => ((P0_ k_ ∨ P1_2_ k_ ∨ P1_3_ k_) ∨ w.heap.size ≤ k_) ∧ k_ ≠ gb109)) k_ ∧ some k_ ≠ (v143 : Value).ownBlock)) (HO149.out) (fun k_ hk => ⟨⟨hk.1.1, hk.1.2⟩, hk.2⟩)))); (case aB => exact (bl1 HB GE109)); (case aF => exact (fun k_ hk => ⟨(.inr (Nat.le_trans (below_size (bl1 HB GE109)) hk)), Kd.freshB (g := gb109) (o := .cells #[.string a1_0, .string a1_1, .slice A1_2 l1_2.length c1_2, .slice A1_3 l1_3.length c1_3] 38 (0, 0)) (bk BK109) k_ hk⟩)); (case aO => exact (kN HO144)); (case aS => exact (below_size (bl1 HB GE109))); (case aL => have := LMc36.out; omega); intro v151 w44 ho hb hg hat; rw [← Ny150.out] at ho; replace HO_0 := aZ_ (Kd.N_afterv (ok := (fun k_ => ((P0_ k_ ∨ P1_2_ k_ ∨ P1_3_ k_) ∨ w.heap.size ≤ k_) ∧ k_ ≠ gb109)) (kN HO_0) hg hat); replace HO_110002 := aZ_ (Kd.V_afterv (ok := (fun k_ => ((P0_ k_ ∨ P1_2_ k_ ∨ P1_3_ k_) ∨ w.heap.size ≤ k_) ∧ some k_ ≠ (.slice Ao38 t110.length co38 : Value).ownBlock ∧ k_ ≠ gb109)) (kV HO_110002) hg hat); replace HO_110003 := aZ_ (Kd.V_afterv (ok := (fun k_ => ((P0_ k_ ∨ P1_2_ k_ ∨ P1_3_ k_) ∨ w.heap.size ≤ k_) ∧ some k_ ≠ (.slice Ao38 t110.length co38 : Value).ownBlock ∧ k_ ≠ gb109)) (kV HO_110003) hg hat); replace BK109 := aZ_ (blk_grown (g := gb109) (o := .cells #[.string a1_0, .string a1_1, .slice A1_2 l1_2.length c1_2, .slice A1_3 l1_3.length c1_3] 38 (0, 0)) (bk BK109) hg (Kd.N_away HO144.out (fun _ hk => hk.2))); replace HO138 := aZ_ (Kd.V_afterv (ok := (fun k_ => ((P0_ k_ ∨ P1_2_ k_ ∨ P1_3_ k_) ∨ w.heap.size ≤ k_) ∧ k_ ≠ gb109)) (kV HO138) hg hat); replace HO149 := aZ_ (Kd.V_afterv (ok := (fun k_ => ((P0_ k_ ∨ P1_2_ k_ ∨ P1_3_ k_) ∨ w.heap.size ≤ k_) ∧ k_ ≠ gb109)) (kV HO149) hg hat); replace HB := aZ_ (hb); have HO152 := aZ_ (ho); clear HO144; clear ho hb hg hat))
         go_ret
         exact ⟨_, by first | rfl | (simp [errW_none, errW_some] <;> rfl) | (simp [*, errW_none, errW_some] <;> rfl), by (with_reducible repeat (first | apply Kd.N_alloc | apply Kd.N_drewN | apply Kd.N_drew)); exact Kd.N_mono HO152.out (fun _ hk => hk.1), bl1 HB GE109⟩
        ·
         rw [if_neg c36] at H
         exact absurd H (by simp)
       ·
        rw [if_neg c33] at H
        exact absurd H (by simp)
      ·
       rw [if_neg c32] at H
       exact absurd H (by simp)
     ·
      rw [if_neg c31] at H
      exact absurd H (by simp)
    ·
     rw [if_neg c30] at H
     exact absurd H (by simp)

/-! ### chancellaw3_within: function 58 -/
def chancellaw3_within.f (a0 : Int) (a1 : Int) : Option (Int) := if a1 = 0 then (none) else (if (Int.tmod a0 a1) < 0 then (some (wrap64 ((Int.tmod a0 a1) + a1))) else (some (Int.tmod a0 a1)))
set_option maxHeartbeats 8000000 in
set_option maxRecDepth 100000 in
theorem chancellaw3_within.calls (a0 : Int) (a1 : Int) (r : Int) (w : World) (h : chancellaw3_within.f a0 a1 = some r) :
  Calls Try.prog 58 #[.int .i64 a0, .int .i64 a1] w fun e w' => e = .returned (.int .i64 r) ∧ Drawn0 w w' := by
 have H : (if a1 = 0 then (none) else (if (Int.tmod a0 a1) < 0 then (some (wrap64 ((Int.tmod a0 a1) + a1))) else (some (Int.tmod a0 a1)))) = some r := h
 clear h
 by_cases c3 : a1 = 0
 ·
  rw [if_pos c3] at H
  exact absurd H (by simp)
 ·
  rw [if_neg c3] at H
  have c3b0 : (a1 == 0) = false := beq_eq_false_iff_ne.mpr c3
  have c3b1 : (a1 != 0) = true := bne_iff_ne.mpr c3
  by_cases c4 : (Int.tmod a0 a1) < 0
  ·
   rw [if_pos c4] at H
   have c4b0 : decide ((Int.tmod a0 a1) < 0) = true := decide_eq_true c4
   clear c4
   obtain rfl := Option.some.inj H
   go_enter Try.func58, Try.ntmps58
   go_wp2
   go_ret
   exact ⟨by first | rfl | (simp; done) | (simp [*]; done), by repeat (first | exact Drawn0.refl _ | apply Drawn0.step)⟩
  ·
   rw [if_neg c4] at H
   have c4b0 : decide ((Int.tmod a0 a1) < 0) = false := decide_eq_false c4
   clear c4
   obtain rfl := Option.some.inj H
   go_enter Try.func58, Try.ntmps58
   go_wp2
   go_ret
   exact ⟨by first | rfl | (simp; done) | (simp [*]; done), by repeat (first | exact Drawn0.refl _ | apply Drawn0.step)⟩

/-! ### chancellaw1_within: function 126 -/
def chancellaw1_within.f (a0 : Int) (a1 : Int) : Option (Int) := if a1 = 0 then (none) else (if (Int.tmod a0 a1) < 0 then (some (wrap64 ((Int.tmod a0 a1) + a1))) else (some (Int.tmod a0 a1)))
set_option maxHeartbeats 8000000 in
set_option maxRecDepth 100000 in
theorem chancellaw1_within.calls (a0 : Int) (a1 : Int) (r : Int) (w : World) (h : chancellaw1_within.f a0 a1 = some r) :
  Calls Try.prog 126 #[.int .i64 a0, .int .i64 a1] w fun e w' => e = .returned (.int .i64 r) ∧ Drawn0 w w' := by
 have H : (if a1 = 0 then (none) else (if (Int.tmod a0 a1) < 0 then (some (wrap64 ((Int.tmod a0 a1) + a1))) else (some (Int.tmod a0 a1)))) = some r := h
 clear h
 by_cases c3 : a1 = 0
 ·
  rw [if_pos c3] at H
  exact absurd H (by simp)
 ·
  rw [if_neg c3] at H
  have c3b0 : (a1 == 0) = false := beq_eq_false_iff_ne.mpr c3
  have c3b1 : (a1 != 0) = true := bne_iff_ne.mpr c3
  by_cases c4 : (Int.tmod a0 a1) < 0
  ·
   rw [if_pos c4] at H
   have c4b0 : decide ((Int.tmod a0 a1) < 0) = true := decide_eq_true c4
   clear c4
   obtain rfl := Option.some.inj H
   go_enter Try.func126, Try.ntmps126
   go_wp2
   go_ret
   exact ⟨by first | rfl | (simp; done) | (simp [*]; done), by repeat (first | exact Drawn0.refl _ | apply Drawn0.step)⟩
  ·
   rw [if_neg c4] at H
   have c4b0 : decide ((Int.tmod a0 a1) < 0) = false := decide_eq_false c4
   clear c4
   obtain rfl := Option.some.inj H
   go_enter Try.func126, Try.ntmps126
   go_wp2
   go_ret
   exact ⟨by first | rfl | (simp; done) | (simp [*]; done), by repeat (first | exact Drawn0.refl _ | apply Drawn0.step)⟩

/-! ### chancelref1_Is: function 148 -/
def chancelref1_Is.f (a0 : Int) : Option (Bool) := if a0 ≥ 0 then (if a0 ≤ 1114111 then (if a0 < 55296 then (some true) else (some (decide (a0 > 57343)))) else (some false)) else (some false)
set_option maxHeartbeats 8000000 in
set_option maxRecDepth 100000 in
theorem chancelref1_Is.calls (a0 : Int) (r : Bool) (w : World) (h : chancelref1_Is.f a0 = some r) :
  Calls Try.prog 148 #[.int .i32 a0] w fun e w' => e = .returned (.bool r) ∧ Drawn0 w w' := by
 have H : (if a0 ≥ 0 then (if a0 ≤ 1114111 then (if a0 < 55296 then (some true) else (some (decide (a0 > 57343)))) else (some false)) else (some false)) = some r := h
 clear h
 by_cases c2 : a0 ≥ 0
 ·
  rw [if_pos c2] at H
  have c2b0 : decide (0 ≤ a0) = true := decide_eq_true c2
  clear c2
  by_cases c3 : a0 ≤ 1114111
  ·
   rw [if_pos c3] at H
   have c3b0 : decide (a0 ≤ 1114111) = true := decide_eq_true c3
   clear c3
   by_cases c4 : a0 < 55296
   ·
    rw [if_pos c4] at H
    have c4b0 : decide (a0 < 55296) = true := decide_eq_true c4
    clear c4
    obtain rfl := Option.some.inj H
    go_enter Try.func148, Try.ntmps148
    go_wp2
    go_ret
    exact ⟨by first | rfl | (simp; done) | (simp [*]; done), by repeat (first | exact Drawn0.refl _ | apply Drawn0.step)⟩
   ·
    rw [if_neg c4] at H
    have c4b0 : decide (a0 < 55296) = false := decide_eq_false c4
    clear c4
    obtain rfl := Option.some.inj H
    go_enter Try.func148, Try.ntmps148
    go_wp2
    go_ret
    exact ⟨by first | rfl | (simp; done) | (simp [*]; done), by repeat (first | exact Drawn0.refl _ | apply Drawn0.step)⟩
  ·
   rw [if_neg c3] at H
   have c3b0 : decide (a0 ≤ 1114111) = false := decide_eq_false c3
   clear c3
   obtain rfl := Option.some.inj H
   go_enter Try.func148, Try.ntmps148
   go_wp2
   go_ret
   exact ⟨by first | rfl | (simp; done) | (simp [*]; done), by repeat (first | exact Drawn0.refl _ | apply Drawn0.step)⟩
 ·
  rw [if_neg c2] at H
  have c2b0 : decide (0 ≤ a0) = false := decide_eq_false c2
  clear c2
  obtain rfl := Option.some.inj H
  go_enter Try.func148, Try.ntmps148
  go_wp2
  go_ret
  exact ⟨by first | rfl | (simp; done) | (simp [*]; done), by repeat (first | exact Drawn0.refl _ | apply Drawn0.step)⟩

end Go.Proofs.Ytelibndkkokadaa.GB
