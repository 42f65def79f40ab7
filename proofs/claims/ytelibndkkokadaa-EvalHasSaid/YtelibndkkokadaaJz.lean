import Derived.Test.YtelibndkkokadaaGB0
import Derived.Test.YtelibndkkokadaaGB2
import Derived.Test.YtelibndkkokadaaSqz
namespace Go.Proofs.Ytelibndkkokadaa.GB
open Go.RowKit Go.Proofs.YtelibndkkokadaaW.PrintWords Go.Proofs.YtelibndkkokadaaW.PrintLast Go.Proofs.Ytelibndkkokadaa.HandV Go.Proofs.YtelibndkkokadaaW.PrintMore
attribute [local go_sem] max2_int min2_int max_two min_two max_three min_three max_four min_four   -- for this text's walks alone
set_option linter.unusedVariables false
set_option linter.unusedSimpArgs false

/-! ### chancelref8_Put: function 26 -/
def chancelref8_Put.l0 : Nat → List (S38) → Int → ByteArray → ByteArray → List (S28) → List (S58) → Option ((List (S38)))
 | 0, _, _, _, _, _, _ => none
 | k + 1, x0, x5, x110000, x110001, x110002, x110003 => if x5 < (x0.length : Int) then (if 0 ≤ x5 then ((chancelref3_LessUid.f ((rd_T38 x0 x5).f0.f0) ((rd_T38 x0 x5).f0.f1) x110000 x110001).bind fun t114 => (if t114 = true then (chancelref8_Put.l0 k x0 (wrap64 (x5 + 1)) x110000 x110001 x110002 x110003) else (if x5 ≤ (x0.length : Int) then ((some (x0.take (x5 : Int).toNat : List (S38))).bind fun y115 => (if ([] : List (S38)).length + y115.length < 1759218604441 then ((some (([] : List (S38)) ++ y115 : List (S38))).bind fun y120 => (if y120.length < 1759218604441 then ((some (y120 ++ [(⟨(⟨x110000, x110001⟩ : S28), x110002, x110003⟩ : S38)] : List (S38))).bind fun y123 => ((some (x0.drop (x5 : Int).toNat : List (S38))).bind fun y126 => (if y123.length + y126.length < 1759218604441 then (some (y123 ++ y126)) else (none)))) else (none))) else (none))) else (none)))) else (none)) else (if 0 ≤ x5 then (if x5 ≤ (x0.length : Int) then ((some (x0.take (x5 : Int).toNat : List (S38))).bind fun y134 => (if ([] : List (S38)).length + y134.length < 1759218604441 then ((some (([] : List (S38)) ++ y134 : List (S38))).bind fun y139 => (if y139.length < 1759218604441 then ((some (y139 ++ [(⟨(⟨x110000, x110001⟩ : S28), x110002, x110003⟩ : S38)] : List (S38))).bind fun y142 => ((some (x0.drop (x5 : Int).toNat : List (S38))).bind fun y145 => (if y142.length + y145.length < 1759218604441 then (some (y142 ++ y145)) else (none)))) else (none))) else (none))) else (none)) else (none))
def chancelref8_Put.f (k : Nat) (l0 : List (S38)) (a1_0 : ByteArray) (a1_1 : ByteArray) (l1_2 : List (S28)) (l1_3 : List (S58)) : Option ((List (S38))) := (chancelref8_Drop.f k l0 a1_0 a1_1).bind fun t110 => (chancelref8_Put.l0 k t110 0 a1_0 a1_1 l1_2 l1_3)
theorem chancelref8_Put.mono_l : ∀ k, (∀ y0 y1 y2 y3 y4 y5, LeO (chancelref8_Put.l0 k y0 y1 y2 y3 y4 y5) (chancelref8_Put.l0 (k + 1) y0 y1 y2 y3 y4 y5))
 | 0 => fun _ _ _ _ _ _ r h => by simp [chancelref8_Put.l0] at h
 | k + 1 => by
  have ih0 := chancelref8_Put.mono_l k
  ·
   intro y0 y1 y2 y3 y4 y5
   unfold chancelref8_Put.l0
   repeat' first
   | (with_reducible exact ih0 _ _ _ _ _ _)
   | (with_reducible exact chancelref8_Drop.mono _ _ _ _)
   | (with_reducible exact LeO.refl _)
   | (with_reducible exact LeO.none _)
   | (with_reducible refine LeO.ite ?_ ?_)
   | (with_reducible refine LeO.bind ?_ (fun _ => ?_))
   | exact ih0 _ _ _ _ _ _
   | exact chancelref8_Drop.mono _ _ _ _
   | exact LeO.none _
   | refine LeO.ite ?_ ?_
   | refine LeO.bind ?_ (fun _ => ?_)
theorem chancelref8_Put.mono : ∀ a0 a1 a2 a3 a4 k, LeO (chancelref8_Put.f k a0 a1 a2 a3 a4) (chancelref8_Put.f (k + 1) a0 a1 a2 a3 a4) := by
 intro a0 a1 a2 a3 a4 k
 have ih0 := chancelref8_Put.mono_l k
 unfold chancelref8_Put.f
 repeat' first
   | (with_reducible exact ih0 _ _ _ _ _ _)
   | (with_reducible exact chancelref8_Drop.mono _ _ _ _)
   | (with_reducible exact LeO.refl _)
   | (with_reducible exact LeO.none _)
   | (with_reducible refine LeO.ite ?_ ?_)
   | (with_reducible refine LeO.bind ?_ (fun _ => ?_))
   | exact ih0 _ _ _ _ _ _
   | exact chancelref8_Drop.mono _ _ _ _
   | exact LeO.none _
   | refine LeO.ite ?_ ?_
   | refine LeO.bind ?_ (fun _ => ?_)
def chancelref8_Put.T3 : Bool × List (List Nat × List Nat) := (true, [([], []), ([], []), ([1], [1]), ([0, 2], [0, 2]), ([3], [3]), ([4], [4]), ([4], [4]), ([5, 6, 4], [4, 5, 6]), ([7, 4], [4, 7]), ([8, 4], [4, 8]), ([4], [4]), ([10, 4], [4, 10]), ([9, 11, 4, 4], [4, 9, 11]), ([4, 12], [4, 12])])
def chancelref8_Put.B3 : List Nat := [0, 0, 2, 7, 15, 31, 31, 127, 255, 511, 31, 1055, 4095, 8191]
theorem chancelref8_Put.tab3 : rtab .any (opsOf Try.f26 3) = chancelref8_Put.T3 := by kernel_rfl
theorem chancelref8_Put.bits3 : waitsOk chancelref8_Put.T3.2 chancelref8_Put.B3 = true := by kernel_rfl
set_option maxHeartbeats 8000000 in
set_option maxRecDepth 100000 in
theorem chancelref8_Put.calls (k : Nat) (P0_ : Nat → Prop) (A0 : Option Addr) (c0 : Nat) (l0 : List (S38)) (a1_0 : ByteArray) (a1_1 : ByteArray) (P1_2_ : Nat → Prop) (A1_2 : Option Addr) (c1_2 : Nat) (l1_2 : List (S28)) (P1_3_ : Nat → Prop) (A1_3 : Option Addr) (c1_3 : Nat) (l1_3 : List (S58)) (r : List (S38)) (w : World) (hs0 : Kd.V k38 38 w w.heap.size (fun k_ => P0_ k_) (.slice A0 l0.length c0) l0) (hs1_2 : Kd.V k28 28 w w.heap.size (fun k_ => P1_2_ k_) (.slice A1_2 l1_2.length c1_2) l1_2) (hs1_3 : Kd.V k58 58 w w.heap.size (fun k_ => P1_3_ k_) (.slice A1_3 l1_3.length c1_3) l1_3) (h : chancelref8_Put.f k l0 a1_0 a1_1 l1_2 l1_3 = some r) :
  Calls Try.prog 26 #[.slice A0 l0.length c0, .agg #[.string a1_0, .string a1_1, .slice A1_2 l1_2.length c1_2, .slice A1_3 l1_3.length c1_3]] w fun e w' => ∃ v0_ : Value, e = .returned (v0_) ∧ Kd.N k38 38 w' w.heap.size (fun k_ => ((P0_ k_ ∨ P1_2_ k_ ∨ P1_3_ k_) ∨ w.heap.size ≤ k_)) v0_ r ∧ Below w.heap.size w w' := by
 have hu38 := Try.underlying38
 have hu28 := Try.underlying28
 have HO0 := aZ_ (show Kd.V k38 38 w w.heap.size (fun k_ => ((P0_ k_ ∨ P1_2_ k_ ∨ P1_3_ k_) ∨ w.heap.size ≤ k_)) (.slice A0 l0.length c0) l0 from Kd.V_mono hs0 (fun k_ hk => .inl (.inl hk)))
 have HO1_2 := aZ_ (show Kd.V k28 28 w w.heap.size (fun k_ => ((P0_ k_ ∨ P1_2_ k_ ∨ P1_3_ k_) ∨ w.heap.size ≤ k_)) (.slice A1_2 l1_2.length c1_2) l1_2 from Kd.V_mono hs1_2 (fun k_ hk => .inl (.inr (.inl hk))))
 have HO1_3 := aZ_ (show Kd.V k58 58 w w.heap.size (fun k_ => ((P0_ k_ ∨ P1_2_ k_ ∨ P1_3_ k_) ∨ w.heap.size ≤ k_)) (.slice A1_3 l1_3.length c1_3) l1_3 from Kd.V_mono hs1_3 (fun k_ hk => .inl (.inr (.inr hk))))
 have HB := aZ_ (Below.refl w.heap.size w)
 have H : ((chancelref8_Drop.f k l0 a1_0 a1_1).bind fun t110 => (chancelref8_Put.l0 k t110 0 a1_0 a1_1 l1_2 l1_3)) = some r := h
 clear h
 replace H := Option.bind_eq_some_iff.mp H
 obtain ⟨t110, A30, H⟩ := H
 replace H : (chancelref8_Put.l0 k t110 0 a1_0 a1_1 l1_2 l1_3) = some r := H
 have A3 := aZ_ A30
 clear A30
 have H' := aZ_ H
 clear H
 go_enter Try.func26, Try.ntmps26
 go_wp2_with (first | ((with_reducible refine gate_dst (N := 3) rfl ?_); refine bxE 3 #[.string a1_0, .string a1_1, .slice A1_2 l1_2.length c1_2, .slice A1_3 l1_3.length c1_3] 38 ?_; intro gb109 hg w4 hbox hb; replace HO0 := aZ_ (Kd.V_below (Kd.V_elderB (kV HO0) gb109 (Nat.le_of_eq hg.symm)) hb); replace HO1_2 := aZ_ (Kd.V_below (Kd.V_elderB (kV HO1_2) gb109 (Nat.le_of_eq hg.symm)) hb); replace HO1_3 := aZ_ (Kd.V_below (Kd.V_elderB (kV HO1_3) gb109 (Nat.le_of_eq hg.symm)) hb); have BK109 := aZ_ (hbox); have GW109 := aZ_ ((by rw [hg]; exact (below_size (bl HB)) : w.heap.size ≤ gb109)); have GE109 := aZ_ ((by rw [hg]; exact (below_size (bl HB)) : w.heap.size ≤ gb109)); replace HB := aZ_ (below_step (bl HB) hb); clear hb hbox hg; obtain ⟨hcz5_0, hcz5_1, hcz5_2, hcz5_3, hfz5_0, hfz5_1, hfz5_2, hfz5_3⟩ := bc4 BK109) | ((with_reducible refine gate_callee (f := 40) rfl ?_); refine goesL_ (some 10) rfl rfl Try.func40 (by kernel_rfl) rfl #[.slice A0 l0.length c0, .agg #[.string a1_0, .string a1_1]] rfl gm_ ?_; (with_reducible refine (chancelref8_Drop.calls k (fun k_ => (((P0_ k_ ∨ P1_2_ k_ ∨ P1_3_ k_) ∨ w.heap.size ≤ k_) ∧ k_ ≠ gb109)) _ _ l0 a1_0 a1_1 t110 _ ?side1 A3.out).mono ?_); (case side1 => exact HO0.out); rintro e w6 ⟨v111, rfl, ho0, hb⟩; refine ⟨_, rfl, ?_⟩; replace HO0 := aZ_ (Kd.V_elder' (kV HO0) (by first | exact Kd.N_base ho0 | exact Kd.R_base ho0) hb); replace HO1_2 := aZ_ (Kd.V_elder' (kV HO1_2) (by first | exact Kd.N_base ho0 | exact Kd.R_base ho0) hb); replace HO1_3 := aZ_ (Kd.V_elder' (kV HO1_3) (by first | exact Kd.N_base ho0 | exact Kd.R_base ho0) hb); have HO112 := aZ_ (Kd.N_lower (Kd.N_mono (ok' := fun k_ => ((P0_ k_ ∨ P1_2_ k_ ∨ P1_3_ k_) ∨ w.heap.size ≤ k_) ∧ k_ ≠ gb109) ho0 (fun k_ hk_ => ⟨Or.elim hk_ (fun hs_ => hs_.1) (fun hn_ => (.inr (Nat.le_trans (below_size (bl1 HB GE109)) hn_))), Or.elim hk_ (fun hs_ => hs_.2) (fun hn_ => (Kd.freshB (g := gb109) (o := .cells #[.string a1_0, .string a1_1, .slice A1_2 l1_2.length c1_2, .slice A1_3 l1_3.length c1_3] 38 (0, 0)) (bk BK109) k_ hn_))⟩)) (below_size (bl1 HB GE109))); replace BK109 := aZ_ (blk_below (g := gb109) (o := .cells #[.string a1_0, .string a1_1, .slice A1_2 l1_2.length c1_2, .slice A1_3 l1_3.length c1_3] 38 (0, 0)) (bk BK109) hb); replace HB := aZ_ (below_step (bl1 HB GE109) hb); (try clear hb); (try clear hb2); (try clear hk); (try clear hi); (try clear ho0)))
 go_loopg [5] k (fun kq v5 w' => ∃ (x5_1 : Int), v5 = .int .i64 x5_1 ∧ Aside0 (chancelref8_Put.l0 kq t110 x5_1 a1_0 a1_1 l1_2 l1_3 = some r) ∧ Aside0 (kq ≤ k) ∧ Aside0 (Kd.N k38 38 w' w.heap.size (fun k_ => ((P0_ k_ ∨ P1_2_ k_ ∨ P1_3_ k_) ∨ w.heap.size ≤ k_) ∧ k_ ≠ gb109) v111 t110) ∧ Aside0 (Kd.V k28 28 w' w.heap.size (fun k_ => ((P0_ k_ ∨ P1_2_ k_ ∨ P1_3_ k_) ∨ w.heap.size ≤ k_) ∧ some k_ ≠ (v111 : Value).ownBlock ∧ k_ ≠ gb109) (.slice A1_2 l1_2.length c1_2) l1_2) ∧ Aside0 (Kd.V k58 58 w' w.heap.size (fun k_ => ((P0_ k_ ∨ P1_2_ k_ ∨ P1_3_ k_) ∨ w.heap.size ≤ k_) ∧ some k_ ≠ (v111 : Value).ownBlock ∧ k_ ≠ gb109) (.slice A1_3 l1_3.length c1_3) l1_3) ∧ Aside0 (w'.heap[gb109]? = some (.cells #[.string a1_0, .string a1_1, (.slice A1_2 l1_2.length c1_2), (.slice A1_3 l1_3.length c1_3)] 38 (0, 0))) ∧ Aside0 (Below w.heap.size w w'))
 case atStart => exact ⟨(0), rf_, H', ⟨Nat.le_refl _⟩, ⟨kN HO112⟩, ⟨by (with_reducible repeat (first | apply Kd.V_alloc | apply Kd.V_drewN | apply Kd.V_drew)); exact Kd.V_mono HO1_2.out (fun _ hk => by first | exact ⟨hk.1.1, ⟨hk.2, hk.1.2⟩⟩ | (simp only [own_nf] at hk ⊢; exact ⟨hk.1.1, ⟨hk.2, hk.1.2⟩⟩))⟩, ⟨by (with_reducible repeat (first | apply Kd.V_alloc | apply Kd.V_drewN | apply Kd.V_drew)); exact Kd.V_mono HO1_3.out (fun _ hk => by first | exact ⟨hk.1.1, ⟨hk.2, hk.1.2⟩⟩ | (simp only [own_nf] at hk ⊢; exact ⟨hk.1.1, ⟨hk.2, hk.1.2⟩⟩))⟩, ⟨bk BK109⟩, ⟨bl1 HB GE109⟩⟩
 case round =>
  clear H'
  try clear c1
  try clear c2
  try clear p2
  try clear c4
  try clear hcz5_0
  try clear hcz5_1
  try clear hcz5_2
  try clear hcz5_3
  try clear hfz5_0
  try clear hfz5_1
  try clear hfz5_2
  try clear hfz5_3
  obtain ⟨x5_1, rfl, HA, HK1, HO_0, HO_110002, HO_110003, BK109, HB⟩ := hrel
  cases gk with
  | zero => exact absurd HA.out (by simp [chancelref8_Put.l0])
  | succ k1 =>
   have H := HA.out
   clear HA
   simp only [chancelref8_Put.l0] at H
   by_cases c7 : x5_1 < (t110.length : Int)
   ·
    rw [if_pos c7] at H
    have c7b0 : decide (x5_1 < (t110.length : Int)) = true := decide_eq_true c7
    clear c7
    by_cases c8 : 0 ≤ x5_1
    ·
     rw [if_pos c8] at H
     have c8b0 : decide (0 ≤ x5_1) = true := decide_eq_true c8
     clear c8
     replace H := Option.bind_eq_some_iff.mp H
     obtain ⟨t114, A90, H⟩ := H
     replace H : (if t114 = true then (chancelref8_Put.l0 k1 t110 (wrap64 (x5_1 + 1)) a1_0 a1_1 l1_2 l1_3) else (if x5_1 ≤ (t110.length : Int) then ((some (t110.take (x5_1 : Int).toNat : List (S38))).bind fun y115 => (if ([] : List (S38)).length + y115.length < 1759218604441 then ((some (([] : List (S38)) ++ y115 : List (S38))).bind fun y120 => (if y120.length < 1759218604441 then ((some (y120 ++ [(⟨(⟨a1_0, a1_1⟩ : S28), l1_2, l1_3⟩ : S38)] : List (S38))).bind fun y123 => ((some (t110.drop (x5_1 : Int).toNat : List (S38))).bind fun y126 => (if y123.length + y126.length < 1759218604441 then (some (y123 ++ y126)) else (none)))) else (none))) else (none))) else (none))) = some r := H
     have A9 := aZ_ A90
     clear A90
     by_cases c10 : t114 = true
     ·
      subst c10
      have H1 : (chancelref8_Put.l0 k1 t110 (wrap64 (x5_1 + 1)) a1_0 a1_1 l1_2 l1_3) = some r := by rw [if_pos rfl] at H; exact H
      clear H
      have H := H1
      clear H1
      have H' := aZ_ H
      clear H
      try go_wp2
      replace HO_0 := aZ_ (Kd.N_drew HO_0.out)
      replace HO_110002 := aZ_ (Kd.V_drew HO_110002.out)
      replace HO_110003 := aZ_ (Kd.V_drew HO_110003.out)
      replace BK109 := aZ_ (blk_drew BK109.out)
      replace HB := aZ_ (below_drew1 HB.out)
      obtain ⟨Ao12, co12, eo12⟩ := Kd.N_slice HO_0.out
      (first | subst eo12 | (injection eo12 with f1_ f2_ f3_; have f4_ := f1_.symm; have f5_ := f3_.symm; clear f1_ f2_ f3_; subst f4_; subst f5_))
      have p113 : 0 ≤ (x5_1 : Int) := of_decide_eq_true asm_
      have q113 : x5_1 < (t110.length : Int) := of_decide_eq_true asm_
      obtain ⟨ad113, A113_2, c113_2, A113_3, c113_3, e113, hx113_0, hx113_1, hx113_2, hx113_3, hl113_2, hi113_2, hl113_3, hi113_3⟩ := at_T38 (Kd.N_reads' HO_0.out).2.2 x5_1 p113 q113
      cases e113
      obtain ⟨ce113, hce113, hMe113, hcc113⟩ := Kd.N_get HO_0.out z38 x5_1 p113 (by first | exact q113 | exact of_decide_eq_true asm_ | (have e_ := (Kd.N_reads' HO_0.out).1; omega))
      obtain ⟨ua113_2, uc113_2, ua113_3, uc113_3, rfl, ul113_2, ge113_2, ul113_3, ge113_3⟩ := k38_openF hMe113
      have hv113_2 := hcc113 2 _ rfl
      rw [add_field _ _ 2 (by omega)] at hv113_2
      replace hv113_2 := Option.some.inj (hv113_2.symm.trans hx113_2)
      injection hv113_2 with hva_ hvn_ hvc_
      rw [hva_] at ge113_2
      rw [hvc_] at ul113_2
      have HL113_2 := aZ_ (show Kd.V k28 28 _ w.heap.size _ _ ((rd_T38 t110 x5_1).f1) from Kd.V_mk ul113_2 ge113_2)
      clear hva_ hvn_ hvc_ ge113_2 ul113_2
      have hv113_3 := hcc113 3 _ rfl
      rw [add_field _ _ 3 (by omega)] at hv113_3
      replace hv113_3 := Option.some.inj (hv113_3.symm.trans hx113_3)
      injection hv113_3 with hva_ hvn_ hvc_
      rw [hva_] at ge113_3
      rw [hvc_] at ul113_3
      have HL113_3 := aZ_ (show Kd.V k58 58 _ w.heap.size _ _ ((rd_T38 t110 x5_1).f2) from Kd.V_mk ul113_3 ge113_3)
      clear hva_ hvn_ hvc_ ge113_3 ul113_3
      clear hcc113 hce113
      have HR113_2 := aZ_ hi113_2
      have HC113_2 := aZ_ hl113_2
      clear hi113_2 hl113_2
      have HR113_3 := aZ_ hi113_3
      have HC113_3 := aZ_ hl113_3
      clear hi113_3 hl113_3
      replace p113 := eq_true p113
      replace q113 := eq_true q113
      refine start_ (n := 14) (S := fun w' => w'.cell? ⟨gb109, 0, none⟩ = some (.string a1_0) ∧ w'.cell? ⟨gb109, 1, none⟩ = some (.string a1_1) ∧ w'.cell? ⟨gb109, 2, none⟩ = some (.slice A1_2 l1_2.length c1_2) ∧ w'.cell? ⟨gb109, 3, none⟩ = some (.slice A1_3 l1_3.length c1_3) ∧ w'.cell? (ad113.add ((x5_1).toNat * 4)) = some (.string ((rd_T38 t110 x5_1).f0.f0)) ∧ w'.cell? ⟨(ad113.add ((x5_1).toNat * 4)).block, (ad113.add ((x5_1).toNat * 4)).off + 1, none⟩ = some (.string ((rd_T38 t110 x5_1).f0.f1)) ∧ w'.cell? ⟨(ad113.add ((x5_1).toNat * 4)).block, (ad113.add ((x5_1).toNat * 4)).off + 2, none⟩ = some (.slice A113_2 ((rd_T38 t110 x5_1).f1).length c113_2) ∧ w'.cell? ⟨(ad113.add ((x5_1).toNat * 4)).block, (ad113.add ((x5_1).toNat * 4)).off + 3, none⟩ = some (.slice A113_3 ((rd_T38 t110 x5_1).f2).length c113_3)) (ds := []) #[false, false, false, false, false, false, false, false, false, false, false, false, false, false] (by kernel_rfl) rfl rfl ⟨(blk_cell BK109.out 0).trans rfl, (blk_cell BK109.out 1).trans rfl, (blk_cell BK109.out 2).trans rfl, (blk_cell BK109.out 3).trans rfl, hx113_0, hx113_1, hx113_2, hx113_3⟩ (fun hHeld => ?_); refine with_tabW chancelref8_Put.tab3 chancelref8_Put.bits3 (fun HT_ HW_ => ?_)
      generalize wr.drew = w11 at HO_0 HO_110002 HO_110003 BK109 HB HL113_2 HL113_3 HR113_2 HR113_3 hx113_0 hx113_1 hx113_2 hx113_3 hHeld ⊢
      refine pS_ 0 11 (fa 14 1) HT_ ?_
      refine pS_ 1 12 (fa 14 3) HT_ ?_
      refine pS_ 2 13 (fa 14 7) HT_ ?_
      refine pS_ 3 14 (fa 14 15) HT_ ?_
      refine pS_ 4 15 (fa 14 31) HT_ ?_
      refine pS_ 5 16 (fa 14 63) HT_ ?_
      refine pS_ 6 17 (fa 14 127) HT_ ?_
      refine pS_ 7 18 (fa 14 255) HT_ ?_
      refine pS_ 8 19 (fa 14 511) HT_ ?_
      refine pS_ 10 21 (fa 14 1535) HT_ ?_
      refine tS_ 9 20 (fa 14 2047) HT_ HW_ hHeld ?_
      refine tS_ 11 22 (fa 14 4095) HT_ HW_ hHeld ?_
      refine one_ (i := 12) (N := some 23) #[true, true, true, true, true, true, true, true, true, true, true, true, true, false] rfl rfl (one_of HT_.out (by kernel_rfl)) (by decide) (fun K hK => ?_)
      refine goes_ Try.func45 (by kernel_rfl) rfl #[.agg #[.string ((rd_T38 t110 x5_1).f0.f0), .string ((rd_T38 t110 x5_1).f0.f1)], .agg #[.string a1_0, .string a1_1]] (by rfl) rfl rfl gm_ ?_
      with_reducible refine (chancelref3_LessUid.calls ((rd_T38 t110 x5_1).f0.f0) ((rd_T38 t110 x5_1).f0.f1) a1_0 a1_1 true _ A9.out).mono ?_
      rintro e w13 ⟨rfl, hb⟩
      have HS4_ := (hbc hb (hHeld.2.2.2.2.1) :)
      have HS5_ := (hbc hb (hHeld.2.2.2.2.2.1) :)
      have HS6_ := (hbc hb (hHeld.2.2.2.2.2.2.1) :)
      have HS7_ := (hbc hb (hHeld.2.2.2.2.2.2.2) :)
      refine ⟨_, rfl, ?_⟩
      replace HO_0 := aZ_ (Kd.N_below (kN HO_0) hb)
      replace HO_110002 := aZ_ (Kd.V_below (kV HO_110002) hb)
      replace HO_110003 := aZ_ (Kd.V_below (kV HO_110003) hb)
      replace HL113_2 := aZ_ (Kd.V_below (kV HL113_2) hb)
      replace HL113_3 := aZ_ (Kd.V_below (kV HL113_3) hb)
      replace BK109 := aZ_ (blk_below (g := gb109) (o := .cells #[.string a1_0, .string a1_1, .slice A1_2 l1_2.length c1_2, .slice A1_3 l1_3.length c1_3] 38 (0, 0)) (bk BK109) hb)
      replace HR113_2 := aZ_ (Kd.C_below (kD HR113_2) hb)
      replace HR113_3 := aZ_ (Kd.C_below (kD HR113_3) hb)
      replace HB := aZ_ (below_step (bl1 HB GE109) hb)
      (try clear hb)
      (try clear hb2)
      (try clear hk)
      (try clear hi)
      refine hK.out _ _ ⟨(blk_cell BK109.out 0).trans rfl, (blk_cell BK109.out 1).trans rfl, (blk_cell BK109.out 2).trans rfl, (blk_cell BK109.out 3).trans rfl, HS4_, HS5_, HS6_, HS7_⟩ (fun hHeld => ?_)
      clear hK K
      refine norm_ (a' := ?_) ?_ ?_
      rotate_left
      ·
       show Act.put _ (some 23) _ = _
       simp only [Act.put, List.setIfInBounds_toArray, List.set_cons_zero, List.set_cons_succ, i64_w, i32_w]
       rfl
      refine pS_ 13 24 (fa 14 16383) HT_ ?_
      refine done_ (done_of HT_.out (by kernel_rfl)) ?_
      try go_wp2
      go_roundg k1
      case measure => have := HK1.out; omega
      case rel => exact ⟨(wrap64 (x5_1 + 1)), rf_, H', ⟨by have := HK1.out; omega⟩, ⟨kN HO_0⟩, ⟨kV HO_110002⟩, ⟨kV HO_110003⟩, ⟨bk BK109⟩, ⟨bl1 HB GE109⟩⟩
     ·
      replace c10 := Bool.eq_false_iff.mpr c10
      subst c10
      have H1 : (if x5_1 ≤ (t110.length : Int) then ((some (t110.take (x5_1 : Int).toNat : List (S38))).bind fun y115 => (if ([] : List (S38)).length + y115.length < 1759218604441 then ((some (([] : List (S38)) ++ y115 : List (S38))).bind fun y120 => (if y120.length < 1759218604441 then ((some (y120 ++ [(⟨(⟨a1_0, a1_1⟩ : S28), l1_2, l1_3⟩ : S38)] : List (S38))).bind fun y123 => ((some (t110.drop (x5_1 : Int).toNat : List (S38))).bind fun y126 => (if y123.length + y126.length < 1759218604441 then (some (y123 ++ y126)) else (none)))) else (none))) else (none))) else (none)) = some r := by rw [if_neg (show ¬ (false = true) by decide)] at H; exact H
      clear H
      have H := H1
      clear H1
      have c14b0 := eq_true (of_decide_eq_true asm_ : 0 ≤ x5_1)
      by_cases c15 : x5_1 ≤ (t110.length : Int)
      ·
       rw [if_pos c15] at H
       have c15b0 := eq_true c15
       have c15b1 : decide (x5_1 ≤ (t110.length : Int)) = true := decide_eq_true c15
       clear c15
       obtain ⟨y115, hy115⟩ : ∃ y_ : List (S38), y_ = (t110.take (x5_1 : Int).toNat) := ⟨_, rfl⟩
       replace H : (if ([] : List (S38)).length + y115.length < 1759218604441 then ((some (([] : List (S38)) ++ y115 : List (S38))).bind fun y120 => (if y120.length < 1759218604441 then ((some (y120 ++ [(⟨(⟨a1_0, a1_1⟩ : S28), l1_2, l1_3⟩ : S38)] : List (S38))).bind fun y123 => ((some (t110.drop (x5_1 : Int).toNat : List (S38))).bind fun y126 => (if y123.length + y126.length < 1759218604441 then (some (y123 ++ y126)) else (none)))) else (none))) else (none)) = some r := by first | (rw [hy115]; with_reducible exact H) | (have H2_ := (Option.bind_some _ _).symm.trans H; rw [hy115]; with_reducible exact H2_) | (have H2_ := (Option.bind_some _ _).symm.trans H; with_reducible exact H2_) | with_reducible exact H | (rw [hy115]; exact H) | exact H
       have Ny115 := aZ_ hy115
       clear hy115
       by_cases c16 : ([] : List (S38)).length + y115.length < 1759218604441
       ·
        rw [if_pos c16] at H
        have LMc16 := aZ_ c16
        clear c16
        obtain ⟨y120, hy120⟩ : ∃ y_ : List (S38), y_ = (([] : List (S38)) ++ y115) := ⟨_, rfl⟩
        replace H : (if y120.length < 1759218604441 then ((some (y120 ++ [(⟨(⟨a1_0, a1_1⟩ : S28), l1_2, l1_3⟩ : S38)] : List (S38))).bind fun y123 => ((some (t110.drop (x5_1 : Int).toNat : List (S38))).bind fun y126 => (if y123.length + y126.length < 1759218604441 then (some (y123 ++ y126)) else (none)))) else (none)) = some r := by first | (rw [hy120]; with_reducible exact H) | (have H2_ := (Option.bind_some _ _).symm.trans H; rw [hy120]; with_reducible exact H2_) | (have H2_ := (Option.bind_some _ _).symm.trans H; with_reducible exact H2_) | with_reducible exact H | (rw [hy120]; exact H) | exact H
        have Ny120 := aZ_ hy120
        clear hy120
        by_cases c17 : y120.length < 1759218604441
        ·
         rw [if_pos c17] at H
         have LMc17 := aZ_ c17
         clear c17
         obtain ⟨y123, hy123⟩ : ∃ y_ : List (S38), y_ = (y120 ++ [(⟨(⟨a1_0, a1_1⟩ : S28), l1_2, l1_3⟩ : S38)]) := ⟨_, rfl⟩
         replace H : ((some (t110.drop (x5_1 : Int).toNat : List (S38))).bind fun y126 => (if y123.length + y126.length < 1759218604441 then (some (y123 ++ y126)) else (none))) = some r := by first | (rw [hy123]; with_reducible exact H) | (have H2_ := (Option.bind_some _ _).symm.trans H; rw [hy123]; with_reducible exact H2_) | (have H2_ := (Option.bind_some _ _).symm.trans H; with_reducible exact H2_) | with_reducible exact H | (rw [hy123]; exact H) | exact H
         have Ny123 := aZ_ hy123
         clear hy123
         have c18b0 := eq_true (of_decide_eq_true asm_ : 0 ≤ x5_1)
         have c19b0 := eq_true (of_decide_eq_true asm_ : x5_1 ≤ (t110.length : Int))
         obtain ⟨y126, hy126⟩ : ∃ y_ : List (S38), y_ = (t110.drop (x5_1 : Int).toNat) := ⟨_, rfl⟩
         replace H : (if y123.length + y126.length < 1759218604441 then (some (y123 ++ y126)) else (none)) = some r := by first | (rw [hy126]; with_reducible exact H) | (have H2_ := (Option.bind_some _ _).symm.trans H; rw [hy126]; with_reducible exact H2_) | (have H2_ := (Option.bind_some _ _).symm.trans H; with_reducible exact H2_) | with_reducible exact H | (rw [hy126]; exact H) | exact H
         have Ny126 := aZ_ hy126
         clear hy126
         by_cases c20 : y123.length + y126.length < 1759218604441
         ·
          rw [if_pos c20] at H
          have LMc20 := aZ_ c20
          clear c20
          obtain ⟨y131, hy131⟩ : ∃ y_ : List (S38), y_ = (y123 ++ y126) := ⟨_, rfl⟩
          replace H : (some y131) = some r := by first | (rw [hy131]; with_reducible exact H) | (have H2_ := (Option.bind_some _ _).symm.trans H; rw [hy131]; with_reducible exact H2_) | (have H2_ := (Option.bind_some _ _).symm.trans H; with_reducible exact H2_) | with_reducible exact H | (rw [hy131]; exact H) | exact H
          have Ny131 := aZ_ hy131
          clear hy131
          obtain rfl := Option.some.inj H
          try go_wp2
          replace HO_0 := aZ_ (Kd.N_drew HO_0.out)
          replace HO_110002 := aZ_ (Kd.V_drew HO_110002.out)
          replace HO_110003 := aZ_ (Kd.V_drew HO_110003.out)
          replace BK109 := aZ_ (blk_drew BK109.out)
          replace HB := aZ_ (below_drew1 HB.out)
          obtain ⟨Ao22, co22, eo22⟩ := Kd.N_slice HO_0.out
          (first | subst eo22 | (injection eo22 with f1_ f2_ f3_; have f4_ := f1_.symm; have f5_ := f3_.symm; clear f1_ f2_ f3_; subst f4_; subst f5_))
          have p113 : 0 ≤ (x5_1 : Int) := of_decide_eq_true asm_
          have q113 : x5_1 < (t110.length : Int) := of_decide_eq_true asm_
          obtain ⟨ad113, A113_2, c113_2, A113_3, c113_3, e113, hx113_0, hx113_1, hx113_2, hx113_3, hl113_2, hi113_2, hl113_3, hi113_3⟩ := at_T38 (Kd.N_reads' HO_0.out).2.2 x5_1 p113 q113
          cases e113
          obtain ⟨ce113, hce113, hMe113, hcc113⟩ := Kd.N_get HO_0.out z38 x5_1 p113 (by first | exact q113 | exact of_decide_eq_true asm_ | (have e_ := (Kd.N_reads' HO_0.out).1; omega))
          obtain ⟨ua113_2, uc113_2, ua113_3, uc113_3, rfl, ul113_2, ge113_2, ul113_3, ge113_3⟩ := k38_openF hMe113
          have hv113_2 := hcc113 2 _ rfl
          rw [add_field _ _ 2 (by omega)] at hv113_2
          replace hv113_2 := Option.some.inj (hv113_2.symm.trans hx113_2)
          injection hv113_2 with hva_ hvn_ hvc_
          rw [hva_] at ge113_2
          rw [hvc_] at ul113_2
          have HL113_2 := aZ_ (show Kd.V k28 28 _ w.heap.size _ _ ((rd_T38 t110 x5_1).f1) from Kd.V_mk ul113_2 ge113_2)
          clear hva_ hvn_ hvc_ ge113_2 ul113_2
          have hv113_3 := hcc113 3 _ rfl
          rw [add_field _ _ 3 (by omega)] at hv113_3
          replace hv113_3 := Option.some.inj (hv113_3.symm.trans hx113_3)
          injection hv113_3 with hva_ hvn_ hvc_
          rw [hva_] at ge113_3
          rw [hvc_] at ul113_3
          have HL113_3 := aZ_ (show Kd.V k58 58 _ w.heap.size _ _ ((rd_T38 t110 x5_1).f2) from Kd.V_mk ul113_3 ge113_3)
          clear hva_ hvn_ hvc_ ge113_3 ul113_3
          clear hcc113 hce113
          have HR113_2 := aZ_ hi113_2
          have HC113_2 := aZ_ hl113_2
          clear hi113_2 hl113_2
          have HR113_3 := aZ_ hi113_3
          have HC113_3 := aZ_ hl113_3
          clear hi113_3 hl113_3
          replace p113 := eq_true p113
          replace q113 := eq_true q113
          refine start_ (n := 14) (S := fun w' => w'.cell? ⟨gb109, 0, none⟩ = some (.string a1_0) ∧ w'.cell? ⟨gb109, 1, none⟩ = some (.string a1_1) ∧ w'.cell? ⟨gb109, 2, none⟩ = some (.slice A1_2 l1_2.length c1_2) ∧ w'.cell? ⟨gb109, 3, none⟩ = some (.slice A1_3 l1_3.length c1_3) ∧ w'.cell? (ad113.add ((x5_1).toNat * 4)) = some (.string ((rd_T38 t110 x5_1).f0.f0)) ∧ w'.cell? ⟨(ad113.add ((x5_1).toNat * 4)).block, (ad113.add ((x5_1).toNat * 4)).off + 1, none⟩ = some (.string ((rd_T38 t110 x5_1).f0.f1)) ∧ w'.cell? ⟨(ad113.add ((x5_1).toNat * 4)).block, (ad113.add ((x5_1).toNat * 4)).off + 2, none⟩ = some (.slice A113_2 ((rd_T38 t110 x5_1).f1).length c113_2) ∧ w'.cell? ⟨(ad113.add ((x5_1).toNat * 4)).block, (ad113.add ((x5_1).toNat * 4)).off + 3, none⟩ = some (.slice A113_3 ((rd_T38 t110 x5_1).f2).length c113_3)) (ds := []) #[false, false, false, false, false, false, false, false, false, false, false, false, false, false] (by kernel_rfl) rfl rfl ⟨(blk_cell BK109.out 0).trans rfl, (blk_cell BK109.out 1).trans rfl, (blk_cell BK109.out 2).trans rfl, (blk_cell BK109.out 3).trans rfl, hx113_0, hx113_1, hx113_2, hx113_3⟩ (fun hHeld => ?_); refine with_tabW chancelref8_Put.tab3 chancelref8_Put.bits3 (fun HT_ HW_ => ?_)
          generalize wr.drew = w21 at HO_0 HO_110002 HO_110003 BK109 HB HL113_2 HL113_3 HR113_2 HR113_3 hx113_0 hx113_1 hx113_2 hx113_3 hHeld ⊢
          refine pS_ 0 11 (fa 14 1) HT_ ?_
          refine pS_ 1 12 (fa 14 3) HT_ ?_
          refine pS_ 2 13 (fa 14 7) HT_ ?_
          refine pS_ 3 14 (fa 14 15) HT_ ?_
          refine pS_ 4 15 (fa 14 31) HT_ ?_
          refine pS_ 5 16 (fa 14 63) HT_ ?_
          refine pS_ 6 17 (fa 14 127) HT_ ?_
          refine pS_ 7 18 (fa 14 255) HT_ ?_
          refine pS_ 8 19 (fa 14 511) HT_ ?_
          refine pS_ 10 21 (fa 14 1535) HT_ ?_
          refine tS_ 9 20 (fa 14 2047) HT_ HW_ hHeld ?_
          refine tS_ 11 22 (fa 14 4095) HT_ HW_ hHeld ?_
          refine one_ (i := 12) (N := some 23) #[true, true, true, true, true, true, true, true, true, true, true, true, true, false] rfl rfl (one_of HT_.out (by kernel_rfl)) (by decide) (fun K hK => ?_)
          refine goes_ Try.func45 (by kernel_rfl) rfl #[.agg #[.string ((rd_T38 t110 x5_1).f0.f0), .string ((rd_T38 t110 x5_1).f0.f1)], .agg #[.string a1_0, .string a1_1]] (by rfl) rfl rfl gm_ ?_
          with_reducible refine (chancelref3_LessUid.calls ((rd_T38 t110 x5_1).f0.f0) ((rd_T38 t110 x5_1).f0.f1) a1_0 a1_1 false _ A9.out).mono ?_
          rintro e w23 ⟨rfl, hb⟩
          have HS4_ := (hbc hb (hHeld.2.2.2.2.1) :)
          have HS5_ := (hbc hb (hHeld.2.2.2.2.2.1) :)
          have HS6_ := (hbc hb (hHeld.2.2.2.2.2.2.1) :)
          have HS7_ := (hbc hb (hHeld.2.2.2.2.2.2.2) :)
          refine ⟨_, rfl, ?_⟩
          replace HO_0 := aZ_ (Kd.N_below (kN HO_0) hb)
          replace HO_110002 := aZ_ (Kd.V_below (kV HO_110002) hb)
          replace HO_110003 := aZ_ (Kd.V_below (kV HO_110003) hb)
          replace HL113_2 := aZ_ (Kd.V_below (kV HL113_2) hb)
          replace HL113_3 := aZ_ (Kd.V_below (kV HL113_3) hb)
          replace BK109 := aZ_ (blk_below (g := gb109) (o := .cells #[.string a1_0, .string a1_1, .slice A1_2 l1_2.length c1_2, .slice A1_3 l1_3.length c1_3] 38 (0, 0)) (bk BK109) hb)
          replace HR113_2 := aZ_ (Kd.C_below (kD HR113_2) hb)
          replace HR113_3 := aZ_ (Kd.C_below (kD HR113_3) hb)
          replace HB := aZ_ (below_step (bl1 HB GE109) hb)
          (try clear hb)
          (try clear hb2)
          (try clear hk)
          (try clear hi)
          refine hK.out _ _ ⟨(blk_cell BK109.out 0).trans rfl, (blk_cell BK109.out 1).trans rfl, (blk_cell BK109.out 2).trans rfl, (blk_cell BK109.out 3).trans rfl, HS4_, HS5_, HS6_, HS7_⟩ (fun hHeld => ?_)
          clear hK K
          refine norm_ (a' := ?_) ?_ ?_
          rotate_left
          ·
           show Act.put _ (some 23) _ = _
           simp only [Act.put, List.setIfInBounds_toArray, List.set_cons_zero, List.set_cons_succ, i64_w, i32_w]
           rfl
          refine pS_ 13 24 (fa 14 16383) HT_ ?_
          refine done_ (done_of HT_.out (by kernel_rfl)) ?_
          have q24 : (x5_1 : Int) ≤ ((t110.length : Int) : Int) := of_decide_eq_true asm_
          obtain ⟨i024, hi024, _, hsz24, _⟩ := info_parts info38
          have hroom24 : t110.length ≤ co22 := (Kd.N_reads' HO_0.out).2.1
          have hC24 : Kd.F k38 _ _ (some ad113) t110.length t110 := (Kd.V_at (base := w.heap.size) (Kd.N_V HO_0.out)).2.2
          have hcut24 := cut_to (P := Try.prog) 25 38 .i64 Try.underlying25 hi024 (some ad113) t110.length co22 x5_1 (of_decide_eq_true asm_) q24 hroom24
          have hr24 := Kd.F_take (m := (x5_1 : Int).toNat) hC24 (by omega)
          have hy24 : y115.length = (x5_1 : Int).toNat := (by rw [Ny115.out, List.length_take]; omega)
          rw [← Ny115.out] at hr24
          rw [← hy24] at hcut24
          have HO119 := aZ_ (show Kd.V k38 38 _ w.heap.size _ (.slice (some ad113) y115.length co22) y115 from Kd.V_mk (by omega) hr24)
          have HC119 := aZ_ (show y115.length ≤ co22 from by omega)
          clear hr24 hC24 hroom24 hi024 hsz24
          have KY24 := aZ_ hy24
          clear hy24
          replace q24 := eq_true q24
          try go_wp2_with (first | ((with_reducible refine gate_builtin (b := .append) (xs := #[.tmp 27, .tmp 30]) rfl ?_); at_builtin; refine Kd.N_append_rows k38 (w0 := w) w.heap.size rfl (.tmp 27) (.tmp 30) 25 38 (.agg #[(.string ⟨#[]⟩), (.string ⟨#[]⟩), (.slice none 0 0), (.slice none 0 0)]) 80 rfl Try.underlying25 info38 rfl (by decide) (by omega) (.slice none 0 0) ([] : List (S38)) y115 _ _ _ (fun k_ => ((P0_ k_ ∨ P1_2_ k_ ∨ P1_3_ k_) ∨ w.heap.size ≤ k_) ∧ k_ ≠ gb109) (fun k_ => ((fun k_ => ((P0_ k_ ∨ P1_2_ k_ ∨ P1_3_ k_) ∨ w.heap.size ≤ k_) ∧ k_ ≠ gb109)) k_ ∧ some k_ ≠ (.slice none 0 0 : Value).ownBlock) rfl rfl ?aO ?aR (fun _ hk => hk) ?aF ?aB ?aS ?aL ?_; (case aR => exact (by skip; exact Kd.V_F (Kd.V_mono (ok' := (fun k_ => ((fun k_ => ((P0_ k_ ∨ P1_2_ k_ ∨ P1_3_ k_) ∨ w.heap.size ≤ k_) ∧ k_ ≠ gb109)) k_ ∧ some k_ ≠ (.slice none 0 0 : Value).ownBlock)) (HO119.out) (fun k_ hk => ⟨⟨hk.1, hk.2⟩, (by simp [Value.ownBlock])⟩)))); (case aB => exact (bl1 HB GE109)); (case aF => exact (fun k_ hk => ⟨(.inr (Nat.le_trans (below_size (bl1 HB GE109)) hk)), Kd.freshB (g := gb109) (o := .cells #[.string a1_0, .string a1_1, .slice A1_2 l1_2.length c1_2, .slice A1_3 l1_3.length c1_3] 38 (0, 0)) (bk BK109) k_ hk⟩)); (case aO => exact ((Kd.N_nil _ _ _ _ (fun k_ => ((P0_ k_ ∨ P1_2_ k_ ∨ P1_3_ k_) ∨ w.heap.size ≤ k_) ∧ k_ ≠ gb109)))); (case aS => exact (below_size (bl1 HB GE109))); (case aL => have := LMc16.out; omega); intro v121 w25 ho hb hg hat; rw [← Ny120.out] at ho; replace HO_0 := aZ_ (Kd.N_afterv (Kd.N_apart_nil (kN HO_0)) hg hat); replace HO_110002 := aZ_ (Kd.V_afterv (Kd.V_apart_nil (kV HO_110002)) hg hat); replace HO_110003 := aZ_ (Kd.V_afterv (Kd.V_apart_nil (kV HO_110003)) hg hat); replace BK109 := aZ_ (blk_grown (g := gb109) (o := .cells #[.string a1_0, .string a1_1, .slice A1_2 l1_2.length c1_2, .slice A1_3 l1_3.length c1_3] 38 (0, 0)) (bk BK109) hg (by simp [Value.ownBlock])); replace HL113_2 := aZ_ (Kd.V_afterv (Kd.V_apart_nil (kV HL113_2)) hg hat); replace HL113_3 := aZ_ (Kd.V_afterv (Kd.V_apart_nil (kV HL113_3)) hg hat); replace HO119 := aZ_ (Kd.V_afterv (Kd.V_apart_nil (kV HO119)) hg hat); replace HB := aZ_ (hb); have HO122 := aZ_ (ho); clear ho hb hg hat; obtain ⟨hcz26_0, hcz26_1, hcz26_2, hcz26_3, hfz26_0, hfz26_1, hfz26_2, hfz26_3⟩ := bc4 BK109) | ((with_reducible refine gate_builtin (b := .append) (xs := #[.tmp 32, .tmp 34]) rfl ?_); at_builtin; refine Kd.N_append k38 (w0 := w) w.heap.size rfl (.tmp 32) (.tmp 34) 25 38 (.agg #[(.string ⟨#[]⟩), (.string ⟨#[]⟩), (.slice none 0 0), (.slice none 0 0)]) 80 rfl Try.underlying25 info38 rfl (by decide) (by omega) v121 y120 (⟨(⟨a1_0, a1_1⟩ : S28), l1_2, l1_3⟩ : S38) [.string a1_0, .string a1_1, .slice A1_2 l1_2.length c1_2, .slice A1_3 l1_3.length c1_3] (fun k_ => ((P0_ k_ ∨ P1_2_ k_ ∨ P1_3_ k_) ∨ w.heap.size ≤ k_) ∧ k_ ≠ gb109) (fun k_ => ((fun k_ => ((P0_ k_ ∨ P1_2_ k_ ∨ P1_3_ k_) ∨ w.heap.size ≤ k_) ∧ k_ ≠ gb109)) k_ ∧ some k_ ≠ (v121 : Value).ownBlock) rfl rfl ?aP (fun _ hk => hk) ?aF ?aO ?aB ?aS ?aL ?_; (case aP => exact (k38_mkF _ _ (⟨(⟨a1_0, a1_1⟩ : S28), l1_2, l1_3⟩ : S38) (Kd.V_reads' (Kd.V_mono (ok' := (fun k_ => ((fun k_ => ((P0_ k_ ∨ P1_2_ k_ ∨ P1_3_ k_) ∨ w.heap.size ≤ k_) ∧ k_ ≠ gb109)) k_ ∧ some k_ ≠ (v121 : Value).ownBlock)) (HO_110002.out) (fun k_ hk => ⟨⟨hk.1.1, hk.1.2.2⟩, hk.2⟩))).2.1 (Kd.V_F (Kd.V_mono (ok' := (fun k_ => ((fun k_ => ((P0_ k_ ∨ P1_2_ k_ ∨ P1_3_ k_) ∨ w.heap.size ≤ k_) ∧ k_ ≠ gb109)) k_ ∧ some k_ ≠ (v121 : Value).ownBlock)) (HO_110002.out) (fun k_ hk => ⟨⟨hk.1.1, hk.1.2.2⟩, hk.2⟩))) (Kd.V_reads' (Kd.V_mono (ok' := (fun k_ => ((fun k_ => ((P0_ k_ ∨ P1_2_ k_ ∨ P1_3_ k_) ∨ w.heap.size ≤ k_) ∧ k_ ≠ gb109)) k_ ∧ some k_ ≠ (v121 : Value).ownBlock)) (HO_110003.out) (fun k_ hk => ⟨⟨hk.1.1, hk.1.2.2⟩, hk.2⟩))).2.1 (Kd.V_F (Kd.V_mono (ok' := (fun k_ => ((fun k_ => ((P0_ k_ ∨ P1_2_ k_ ∨ P1_3_ k_) ∨ w.heap.size ≤ k_) ∧ k_ ≠ gb109)) k_ ∧ some k_ ≠ (v121 : Value).ownBlock)) (HO_110003.out) (fun k_ hk => ⟨⟨hk.1.1, hk.1.2.2⟩, hk.2⟩))))); (case aB => exact (bl1 HB GE109)); (case aF => exact (fun k_ hk => ⟨(.inr (Nat.le_trans (below_size (bl1 HB GE109)) hk)), Kd.freshB (g := gb109) (o := .cells #[.string a1_0, .string a1_1, .slice A1_2 l1_2.length c1_2, .slice A1_3 l1_3.length c1_3] 38 (0, 0)) (bk BK109) k_ hk⟩)); (case aO => exact (kN HO122)); (case aS => exact (below_size (bl1 HB GE109))); (case aL => have := LMc17.out; omega); intro v124 w27 ho hb hg hat; rw [← Ny123.out] at ho; replace HO_0 := aZ_ (Kd.N_afterv (ok := (fun k_ => ((P0_ k_ ∨ P1_2_ k_ ∨ P1_3_ k_) ∨ w.heap.size ≤ k_) ∧ k_ ≠ gb109)) (kN HO_0) hg hat); replace HO_110002 := aZ_ (Kd.V_afterv (ok := (fun k_ => ((P0_ k_ ∨ P1_2_ k_ ∨ P1_3_ k_) ∨ w.heap.size ≤ k_) ∧ some k_ ≠ (.slice (some ad113) t110.length co22 : Value).ownBlock ∧ k_ ≠ gb109)) (kV HO_110002) hg hat); replace HO_110003 := aZ_ (Kd.V_afterv (ok := (fun k_ => ((P0_ k_ ∨ P1_2_ k_ ∨ P1_3_ k_) ∨ w.heap.size ≤ k_) ∧ some k_ ≠ (.slice (some ad113) t110.length co22 : Value).ownBlock ∧ k_ ≠ gb109)) (kV HO_110003) hg hat); replace BK109 := aZ_ (blk_grown (g := gb109) (o := .cells #[.string a1_0, .string a1_1, .slice A1_2 l1_2.length c1_2, .slice A1_3 l1_3.length c1_3] 38 (0, 0)) (bk BK109) hg (Kd.N_away HO122.out (fun _ hk => hk.2))); replace HL113_2 := aZ_ (Kd.V_afterv (ok := (fun k_ => ((P0_ k_ ∨ P1_2_ k_ ∨ P1_3_ k_) ∨ w.heap.size ≤ k_) ∧ some k_ ≠ (.slice (some ad113) t110.length co22 : Value).ownBlock ∧ k_ ≠ gb109)) (by (with_reducible repeat (first | apply Kd.V_alloc | apply Kd.V_drewN | apply Kd.V_drew)); exact Kd.V_mono HL113_2.out (fun _ hk => ⟨⟨hk.1.1.1, ⟨hk.1.2, hk.1.1.2⟩⟩, hk.2⟩)) hg hat); replace HL113_3 := aZ_ (Kd.V_afterv (ok := (fun k_ => ((P0_ k_ ∨ P1_2_ k_ ∨ P1_3_ k_) ∨ w.heap.size ≤ k_) ∧ some k_ ≠ (.slice (some ad113) t110.length co22 : Value).ownBlock ∧ k_ ≠ gb109)) (by (with_reducible repeat (first | apply Kd.V_alloc | apply Kd.V_drewN | apply Kd.V_drew)); exact Kd.V_mono HL113_3.out (fun _ hk => ⟨⟨hk.1.1.1, ⟨hk.1.2, hk.1.1.2⟩⟩, hk.2⟩)) hg hat); replace HO119 := aZ_ (Kd.V_afterv (ok := (fun k_ => ((P0_ k_ ∨ P1_2_ k_ ∨ P1_3_ k_) ∨ w.heap.size ≤ k_) ∧ k_ ≠ gb109)) (kV HO119) hg hat); replace HB := aZ_ (hb); have HO125 := aZ_ (ho); clear HO122; clear ho hb hg hat; have q28 : (x5_1 : Int) ≤ ((t110.length : Int) : Int) := of_decide_eq_true asm_; obtain ⟨i028, hi028, _, hsz28, _⟩ := info_parts info38; have hroom28 : t110.length ≤ co22 := (Kd.N_reads' HO_0.out).2.1; have hC28 : Kd.F k38 _ _ (some ad113) t110.length t110 := (Kd.V_at (base := w.heap.size) (Kd.N_V HO_0.out)).2.2; have q028 : (0 : Int) ≤ (x5_1 : Int) := of_decide_eq_true asm_; have hcut28 := cut_from (P := Try.prog) 25 38 .i64 Try.underlying25 hi028 4 hsz28 (some ad113) t110.length co22 x5_1 q028 q28; have hr28 := Kd.F_cut (m := (x5_1 : Int).toNat) (c := co22) hC28 (by omega) hroom28; obtain ⟨A28, hA28⟩ : ∃ A1, A1 = (if co22 = (x5_1 : Int).toNat then (some ad113) else ((some ad113) : Option Addr).map (·.add ((x5_1 : Int).toNat * 4))) := ⟨_, rfl⟩; obtain ⟨c28, hc28⟩ : ∃ c1, c1 = co22 - (x5_1 : Int).toNat := ⟨_, rfl⟩; have hy28 : y126.length = t110.length - (x5_1 : Int).toNat := (by rw [Ny126.out, List.length_drop] <;> omega); rw [show (t110).drop (x5_1 : Int).toNat = y126 from Ny126.out.symm] at hr28; replace hr28 : Kd.F k38 _ _ A28 y126.length y126 := (by rw [hA28]; exact hr28); rw [← hy28, ← hA28, ← hc28] at hcut28; have HO130 := aZ_ (show Kd.V k38 38 _ w.heap.size _ (.slice A28 y126.length c28) y126 from Kd.V_mk (by rw [hy28, hc28]; exact Nat.sub_le_sub_right hroom28 _) hr28); have HC130 := aZ_ (show y126.length ≤ c28 from by rw [hy28, hc28]; exact Nat.sub_le_sub_right hroom28 _); clear hr28 hC28 hroom28 hi028 hsz28 hc28; have KY28 := aZ_ hy28; have KA28 := aZ_ hA28; clear hy28 hA28; replace q28 := eq_true q28) | ((with_reducible refine gate_builtin (b := .append) (xs := #[.tmp 36, .tmp 39]) rfl ?_); at_builtin; refine Kd.N_append_rows k38 (w0 := w) w.heap.size rfl (.tmp 36) (.tmp 39) 25 38 (.agg #[(.string ⟨#[]⟩), (.string ⟨#[]⟩), (.slice none 0 0), (.slice none 0 0)]) 80 rfl Try.underlying25 info38 rfl (by decide) (by omega) v124 y123 y126 _ _ _ (fun k_ => ((P0_ k_ ∨ P1_2_ k_ ∨ P1_3_ k_) ∨ w.heap.size ≤ k_) ∧ k_ ≠ gb109) (fun k_ => ((fun k_ => ((P0_ k_ ∨ P1_2_ k_ ∨ P1_3_ k_) ∨ w.heap.size ≤ k_) ∧ k_ ≠ gb109)) k_ ∧ some k_ ≠ (v124 : Value).ownBlock) rfl rfl ?aO ?aR (fun _ hk => hk) ?aF ?aB ?aS ?aL ?_; (case aR => exact (by skip; exact Kd.V_F (Kd.V_mono (ok' := (fun k_ => ((fun k_ => ((P0_ k_ ∨ P1_2_ k_ ∨ P1_3_ k_) ∨ w.heap.size ≤ k_) ∧ k_ ≠ gb109)) k_ ∧ some k_ ≠ (v124 : Value).ownBlock)) (HO130.out) (fun k_ hk => ⟨⟨hk.1.1, hk.1.2⟩, hk.2⟩)))); (case aB => exact (bl1 HB GE109)); (case aF => exact (fun k_ hk => ⟨(.inr (Nat.le_trans (below_size (bl1 HB GE109)) hk)), Kd.freshB (g := gb109) (o := .cells #[.string a1_0, .string a1_1, .slice A1_2 l1_2.length c1_2, .slice A1_3 l1_3.length c1_3] 38 (0, 0)) (bk BK109) k_ hk⟩)); (case aO => exact (kN HO125)); (case aS => exact (below_size (bl1 HB GE109))); (case aL => have := LMc20.out; omega); intro v132 w29 ho hb hg hat; rw [← Ny131.out] at ho; replace HO_0 := aZ_ (Kd.N_afterv (ok := (fun k_ => ((P0_ k_ ∨ P1_2_ k_ ∨ P1_3_ k_) ∨ w.heap.size ≤ k_) ∧ k_ ≠ gb109)) (kN HO_0) hg hat); replace HO_110002 := aZ_ (Kd.V_afterv (ok := (fun k_ => ((P0_ k_ ∨ P1_2_ k_ ∨ P1_3_ k_) ∨ w.heap.size ≤ k_) ∧ some k_ ≠ (.slice (some ad113) t110.length co22 : Value).ownBlock ∧ k_ ≠ gb109)) (kV HO_110002) hg hat); replace HO_110003 := aZ_ (Kd.V_afterv (ok := (fun k_ => ((P0_ k_ ∨ P1_2_ k_ ∨ P1_3_ k_) ∨ w.heap.size ≤ k_) ∧ some k_ ≠ (.slice (some ad113) t110.length co22 : Value).ownBlock ∧ k_ ≠ gb109)) (kV HO_110003) hg hat); replace BK109 := aZ_ (blk_grown (g := gb109) (o := .cells #[.string a1_0, .string a1_1, .slice A1_2 l1_2.length c1_2, .slice A1_3 l1_3.length c1_3] 38 (0, 0)) (bk BK109) hg (Kd.N_away HO125.out (fun _ hk => hk.2))); replace HL113_2 := aZ_ (Kd.V_afterv (ok := (fun k_ => ((P0_ k_ ∨ P1_2_ k_ ∨ P1_3_ k_) ∨ w.heap.size ≤ k_) ∧ some k_ ≠ (.slice (some ad113) t110.length co22 : Value).ownBlock ∧ k_ ≠ gb109)) (kV HL113_2) hg hat); replace HL113_3 := aZ_ (Kd.V_afterv (ok := (fun k_ => ((P0_ k_ ∨ P1_2_ k_ ∨ P1_3_ k_) ∨ w.heap.size ≤ k_) ∧ some k_ ≠ (.slice (some ad113) t110.length co22 : Value).ownBlock ∧ k_ ≠ gb109)) (kV HL113_3) hg hat); replace HO119 := aZ_ (Kd.V_afterv (ok := (fun k_ => ((P0_ k_ ∨ P1_2_ k_ ∨ P1_3_ k_) ∨ w.heap.size ≤ k_) ∧ k_ ≠ gb109)) (kV HO119) hg hat); replace HO130 := aZ_ (Kd.V_afterv (ok := (fun k_ => ((P0_ k_ ∨ P1_2_ k_ ∨ P1_3_ k_) ∨ w.heap.size ≤ k_) ∧ k_ ≠ gb109)) (kV HO130) hg hat); replace HB := aZ_ (hb); have HO133 := aZ_ (ho); clear HO125; clear ho hb hg hat))
          go_ret
          exact ⟨_, by first | rfl | (simp [errW_none, errW_some] <;> rfl) | (simp [*, errW_none, errW_some] <;> rfl), by (with_reducible repeat (first | apply Kd.N_alloc | apply Kd.N_drewN | apply Kd.N_drew)); exact Kd.N_mono HO133.out (fun _ hk => hk.1), bl1 HB GE109⟩
         ·
          rw [if_neg c20] at H
          exact absurd H (by simp)
        ·
         rw [if_neg c17] at H
         exact absurd H (by simp)
       ·
        rw [if_neg c16] at H
        exact absurd H (by simp)
      ·
       rw [if_neg c15] at H
       exact absurd H (by simp)
    ·
     rw [if_neg c8] at H
     exact absurd H (by simp)
   ·
    rw [if_neg c7] at H
    have c7b0 : decide (x5_1 < (t110.length : Int)) = false := decide_eq_false c7
    clear c7
    by_cases c30 : 0 ≤ x5_1
    ·
     rw [if_pos c30] at H
     have c30b0 := eq_true c30
     have c30b1 : decide (0 ≤ x5_1) = true := decide_eq_true c30
     clear c30
     by_cases c31 : x5_1 ≤ (t110.length : Int)
     ·
      rw [if_pos c31] at H
      have c31b0 := eq_true c31
      have c31b1 : decide (x5_1 ≤ (t110.length : Int)) = true := decide_eq_true c31
      clear c31
      obtain ⟨y134, hy134⟩ : ∃ y_ : List (S38), y_ = (t110.take (x5_1 : Int).toNat) := ⟨_, rfl⟩
      replace H : (if ([] : List (S38)).length + y134.length < 1759218604441 then ((some (([] : List (S38)) ++ y134 : List (S38))).bind fun y139 => (if y139.length < 1759218604441 then ((some (y139 ++ [(⟨(⟨a1_0, a1_1⟩ : S28), l1_2, l1_3⟩ : S38)] : List (S38))).bind fun y142 => ((some (t110.drop (x5_1 : Int).toNat : List (S38))).bind fun y145 => (if y142.length + y145.length < 1759218604441 then (some (y142 ++ y145)) else (none)))) else (none))) else (none)) = some r := by first | (rw [hy134]; with_reducible exact H) | (have H2_ := (Option.bind_some _ _).symm.trans H; rw [hy134]; with_reducible exact H2_) | (have H2_ := (Option.bind_some _ _).symm.trans H; with_reducible exact H2_) | with_reducible exact H | (rw [hy134]; exact H) | exact H
      have Ny134 := aZ_ hy134
      clear hy134
      by_cases c32 : ([] : List (S38)).length + y134.length < 1759218604441
      ·
       rw [if_pos c32] at H
       have LMc32 := aZ_ c32
       clear c32
       obtain ⟨y139, hy139⟩ : ∃ y_ : List (S38), y_ = (([] : List (S38)) ++ y134) := ⟨_, rfl⟩
       replace H : (if y139.length < 1759218604441 then ((some (y139 ++ [(⟨(⟨a1_0, a1_1⟩ : S28), l1_2, l1_3⟩ : S38)] : List (S38))).bind fun y142 => ((some (t110.drop (x5_1 : Int).toNat : List (S38))).bind fun y145 => (if y142.length + y145.length < 1759218604441 then (some (y142 ++ y145)) else (none)))) else (none)) = some r := by first | (rw [hy139]; with_reducible exact H) | (have H2_ := (Option.bind_some _ _).symm.trans H; rw [hy139]; with_reducible exact H2_) | (have H2_ := (Option.bind_some _ _).symm.trans H; with_reducible exact H2_) | with_reducible exact H | (rw [hy139]; exact H) | exact H
       have Ny139 := aZ_ hy139
       clear hy139
       by_cases c33 : y139.length < 1759218604441
       ·
        rw [if_pos c33] at H
        have LMc33 := aZ_ c33
        clear c33
        obtain ⟨y142, hy142⟩ : ∃ y_ : List (S38), y_ = (y139 ++ [(⟨(⟨a1_0, a1_1⟩ : S28), l1_2, l1_3⟩ : S38)]) := ⟨_, rfl⟩
        replace H : ((some (t110.drop (x5_1 : Int).toNat : List (S38))).bind fun y145 => (if y142.length + y145.length < 1759218604441 then (some (y142 ++ y145)) else (none))) = some r := by first | (rw [hy142]; with_reducible exact H) | (have H2_ := (Option.bind_some _ _).symm.trans H; rw [hy142]; with_reducible exact H2_) | (have H2_ := (Option.bind_some _ _).symm.trans H; with_reducible exact H2_) | with_reducible exact H | (rw [hy142]; exact H) | exact H
        have Ny142 := aZ_ hy142
        clear hy142
        have c34b0 := eq_true (of_decide_eq_true asm_ : 0 ≤ x5_1)
        have c35b0 := eq_true (of_decide_eq_true asm_ : x5_1 ≤ (t110.length : Int))
        obtain ⟨y145, hy145⟩ : ∃ y_ : List (S38), y_ = (t110.drop (x5_1 : Int).toNat) := ⟨_, rfl⟩
        replace H : (if y142.length + y145.length < 1759218604441 then (some (y142 ++ y145)) else (none)) = some r := by first | (rw [hy145]; with_reducible exact H) | (have H2_ := (Option.bind_some _ _).symm.trans H; rw [hy145]; with_reducible exact H2_) | (have H2_ := (Option.bind_some _ _).symm.trans H; with_reducible exact H2_) | with_reducible exact H | (rw [hy145]; exact H) | exact H
        have Ny145 := aZ_ hy145
        clear hy145
        by_cases c36 : y142.length + y145.length < 1759218604441
        ·
         rw [if_pos c36] at H
         have LMc36 := aZ_ c36
         clear c36
         obtain ⟨y150, hy150⟩ : ∃ y_ : List (S38), y_ = (y142 ++ y145) := ⟨_, rfl⟩
         replace H : (some y150) = some r := by first | (rw [hy150]; with_reducible exact H) | (have H2_ := (Option.bind_some _ _).symm.trans H; rw [hy150]; with_reducible exact H2_) | (have H2_ := (Option.bind_some _ _).symm.trans H; with_reducible exact H2_) | with_reducible exact H | (rw [hy150]; exact H) | exact H
         have Ny150 := aZ_ hy150
         clear hy150
         obtain rfl := Option.some.inj H
         try go_wp2
         replace HO_0 := aZ_ (Kd.N_drew HO_0.out)
         replace HO_110002 := aZ_ (Kd.V_drew HO_110002.out)
         replace HO_110003 := aZ_ (Kd.V_drew HO_110003.out)
         replace BK109 := aZ_ (blk_drew BK109.out)
         replace HB := aZ_ (below_drew1 HB.out)
         obtain ⟨Ao38, co38, eo38⟩ := Kd.N_slice HO_0.out
         (first | subst eo38 | (injection eo38 with f1_ f2_ f3_; have f4_ := f1_.symm; have f5_ := f3_.symm; clear f1_ f2_ f3_; subst f4_; subst f5_))
         refine start_ (n := 14) (S := fun w' => True) (ds := []) #[false, false, false, false, false, false, false, false, false, false, false, false, false, false] (by kernel_rfl) rfl rfl trivial (fun hHeld => ?_); refine with_tabW chancelref8_Put.tab3 chancelref8_Put.bits3 (fun HT_ HW_ => ?_)
         generalize wr.drew = w37 at HO_0 HO_110002 HO_110003 BK109 HB hHeld ⊢
         refine pS_ 0 11 (fa 14 1) HT_ ?_
         refine pS_ 1 12 (fa 14 3) HT_ ?_
         refine pS_ 2 13 (fa 14 7) HT_ ?_
         refine pS_ 3 14 (fa 14 15) HT_ ?_
         refine pS_ 4 15 (fa 14 31) HT_ ?_
         refine pU_ 5 16 (fa 14 63) HT_ ?_
         refine pU_ 6 17 (fa 14 127) HT_ ?_
         refine pU_ 7 18 (fa 14 255) HT_ ?_
         refine pU_ 8 19 (fa 14 511) HT_ ?_
         refine pU_ 9 20 (fa 14 1023) HT_ ?_
         refine pU_ 10 21 (fa 14 2047) HT_ ?_
         refine pU_ 11 22 (fa 14 4095) HT_ ?_
         refine pU_ 12 23 (fa 14 8191) HT_ ?_
         refine pS_ 13 24 (fa 14 16383) HT_ ?_
         refine done_ (done_of HT_.out (by kernel_rfl)) ?_
         have q39 : (x5_1 : Int) ≤ ((t110.length : Int) : Int) := of_decide_eq_true asm_
         obtain ⟨i039, hi039, _, hsz39, _⟩ := info_parts info38
         have hroom39 : t110.length ≤ co38 := (Kd.N_reads' HO_0.out).2.1
         have hC39 : Kd.F k38 _ _ Ao38 t110.length t110 := (Kd.V_at (base := w.heap.size) (Kd.N_V HO_0.out)).2.2
         have hcut39 := cut_to (P := Try.prog) 25 38 .i64 Try.underlying25 hi039 Ao38 t110.length co38 x5_1 (of_decide_eq_true asm_) q39 hroom39
         have hr39 := Kd.F_take (m := (x5_1 : Int).toNat) hC39 (by omega)
         have hy39 : y134.length = (x5_1 : Int).toNat := (by rw [Ny134.out, List.length_take]; omega)
         rw [← Ny134.out] at hr39
         rw [← hy39] at hcut39
         have HO138 := aZ_ (show Kd.V k38 38 _ w.heap.size _ (.slice Ao38 y134.length co38) y134 from Kd.V_mk (by omega) hr39)
         have HC138 := aZ_ (show y134.length ≤ co38 from by omega)
         clear hr39 hC39 hroom39 hi039 hsz39
         have KY39 := aZ_ hy39
         clear hy39
         replace q39 := eq_true q39
         try go_wp2_with (first | ((with_reducible refine gate_builtin (b := .append) (xs := #[.tmp 27, .tmp 30]) rfl ?_); at_builtin; refine Kd.N_append_rows k38 (w0 := w) w.heap.size rfl (.tmp 27) (.tmp 30) 25 38 (.agg #[(.string ⟨#[]⟩), (.string ⟨#[]⟩), (.slice none 0 0), (.slice none 0 0)]) 80 rfl Try.underlying25 info38 rfl (by decide) (by omega) (.slice none 0 0) ([] : List (S38)) y134 _ _ _ (fun k_ => ((P0_ k_ ∨ P1_2_ k_ ∨ P1_3_ k_) ∨ w.heap.size ≤ k_) ∧ k_ ≠ gb109) (fun k_ => ((fun k_ => ((P0_ k_ ∨ P1_2_ k_ ∨ P1_3_ k_) ∨ w.heap.size ≤ k_) ∧ k_ ≠ gb109)) k_ ∧ some k_ ≠ (.slice none 0 0 : Value).ownBlock) rfl rfl ?aO ?aR (fun _ hk => hk) ?aF ?aB ?aS ?aL ?_; (case aR => exact (by skip; exact Kd.V_F (Kd.V_mono (ok' := (fun k_ => ((fun k_ => ((P0_ k_ ∨ P1_2_ k_ ∨ P1_3_ k_) ∨ w.heap.size ≤ k_) ∧ k_ ≠ gb109)) k_ ∧ some k_ ≠ (.slice none 0 0 : Value).ownBlock)) (HO138.out) (fun k_ hk => ⟨⟨hk.1, hk.2⟩, (by simp [Value.ownBlock])⟩)))); (case aB => exact (bl1 HB GE109)); (case aF => exact (fun k_ hk => ⟨(.inr (Nat.le_trans (below_size (bl1 HB GE109)) hk)), Kd.freshB (g := gb109) (o := .cells #[.string a1_0, .string a1_1, .slice A1_2 l1_2.length c1_2, .slice A1_3 l1_3.length c1_3] 38 (0, 0)) (bk BK109) k_ hk⟩)); (case aO => exact ((Kd.N_nil _ _ _ _ (fun k_ => ((P0_ k_ ∨ P1_2_ k_ ∨ P1_3_ k_) ∨ w.heap.size ≤ k_) ∧ k_ ≠ gb109)))); (case aS => exact (below_size (bl1 HB GE109))); (case aL => have := LMc32.out; omega); intro v140 w40 ho hb hg hat; rw [← Ny139.out] at ho; replace HO_0 := aZ_ (Kd.N_afterv (Kd.N_apart_nil (kN HO_0)) hg hat); replace HO_110002 := aZ_ (Kd.V_afterv (Kd.V_apart_nil (kV HO_110002)) hg hat); replace HO_110003 := aZ_ (Kd.V_afterv (Kd.V_apart_nil (kV HO_110003)) hg hat); replace BK109 := aZ_ (blk_grown (g := gb109) (o := .cells #[.string a1_0, .string a1_1, .slice A1_2 l1_2.length c1_2, .slice A1_3 l1_3.length c1_3] 38 (0, 0)) (bk BK109) hg (by simp [Value.ownBlock])); replace HO138 := aZ_ (Kd.V_afterv (Kd.V_apart_nil (kV HO138)) hg hat); replace HB := aZ_ (hb); have HO141 := aZ_ (ho); clear ho hb hg hat; obtain ⟨hcz41_0, hcz41_1, hcz41_2, hcz41_3, hfz41_0, hfz41_1, hfz41_2, hfz41_3⟩ := bc4 BK109) | ((with_reducible refine gate_builtin (b := .append) (xs := #[.tmp 32, .tmp 34]) rfl ?_); at_builtin; refine Kd.N_append k38 (w0 := w) w.heap.size rfl (.tmp 32) (.tmp 34) 25 38 (.agg #[(.string ⟨#[]⟩), (.string ⟨#[]⟩), (.slice none 0 0), (.slice none 0 0)]) 80 rfl Try.underlying25 info38 rfl (by decide) (by omega) v140 y139 (⟨(⟨a1_0, a1_1⟩ : S28), l1_2, l1_3⟩ : S38) [.string a1_0, .string a1_1, .slice A1_2 l1_2.length c1_2, .slice A1_3 l1_3.length c1_3] (fun k_ => ((P0_ k_ ∨ P1_2_ k_ ∨ P1_3_ k_) ∨ w.heap.size ≤ k_) ∧ k_ ≠ gb109) (fun k_ => ((fun k_ => ((P0_ k_ ∨ P1_2_ k_ ∨ P1_3_ k_) ∨ w.heap.size ≤ k_) ∧ k_ ≠ gb109)) k_ ∧ some k_ ≠ (v140 : Value).ownBlock) rfl rfl ?aP (fun _ hk => hk) ?aF ?aO ?aB ?aS ?aL ?_; (case aP => exact (k38_mkF _ _ (⟨(⟨a1_0, a1_1⟩ : S28), l1_2, l1_3⟩ : S38) (Kd.V_reads' (Kd.V_mono (ok' := (fun k_ => ((fun k_ => ((P0_ k_ ∨ P1_2_ k_ ∨ P1_3_ k_) ∨ w.heap.size ≤ k_) ∧ k_ ≠ gb109)) k_ ∧ some k_ ≠ (v140 : Value).ownBlock)) (HO_110002.out) (fun k_ hk => ⟨⟨hk.1.1, hk.1.2.2⟩, hk.2⟩))).2.1 (Kd.V_F (Kd.V_mono (ok' := (fun k_ => ((fun k_ => ((P0_ k_ ∨ P1_2_ k_ ∨ P1_3_ k_) ∨ w.heap.size ≤ k_) ∧ k_ ≠ gb109)) k_ ∧ some k_ ≠ (v140 : Value).ownBlock)) (HO_110002.out) (fun k_ hk => ⟨⟨hk.1.1, hk.1.2.2⟩, hk.2⟩))) (Kd.V_reads' (Kd.V_mono (ok' := (fun k_ => ((fun k_ => ((P0_ k_ ∨ P1_2_ k_ ∨ P1_3_ k_) ∨ w.heap.size ≤ k_) ∧ k_ ≠ gb109)) k_ ∧ some k_ ≠ (v140 : Value).ownBlock)) (HO_110003.out) (fun k_ hk => ⟨⟨hk.1.1, hk.1.2.2⟩, hk.2⟩))).2.1 (Kd.V_F (Kd.V_mono (ok' := (fun k_ => ((fun k_ => ((P0_ k_ ∨ P1_2_ k_ ∨ P1_3_ k_) ∨ w.heap.size ≤ k_) ∧ k_ ≠ gb109)) k_ ∧ some k_ ≠ (v140 : Value).ownBlock)) (HO_110003.out) (fun k_ hk => ⟨⟨hk.1.1, hk.1.2.2⟩, hk.2⟩))))); (case aB => exact (bl1 HB GE109)); (case aF => exact (fun k_ hk => ⟨(.inr (Nat.le_trans (below_size (bl1 HB GE109)) hk)), Kd.freshB (g := gb109) (o := .cells #[.string a1_0, .string a1_1, .slice A1_2 l1_2.length c1_2, .slice A1_3 l1_3.length c1_3] 38 (0, 0)) (bk BK109) k_ hk⟩)); (case aO => exact (kN HO141)); (case aS => exact (below_size (bl1 HB GE109))); (case aL => have := LMc33.out; omega); intro v143 w42 ho hb hg hat; rw [← Ny142.out] at ho; replace HO_0 := aZ_ (Kd.N_afterv (ok := (fun k_ => ((P0_ k_ ∨ P1_2_ k_ ∨ P1_3_ k_) ∨ w.heap.size ≤ k_) ∧ k_ ≠ gb109)) (kN HO_0) hg hat); replace HO_110002 := aZ_ (Kd.V_afterv (ok := (fun k_ => ((P0_ k_ ∨ P1_2_ k_ ∨ P1_3_ k_) ∨ w.heap.size ≤ k_) ∧ some k_ ≠ (.slice Ao38 t110.length co38 : Value).ownBlock ∧ k_ ≠ gb109)) (kV HO_110002) hg hat); replace HO_110003 := aZ_ (Kd.V_afterv (ok := (fun k_ => ((P0_ k_ ∨ P1_2_ k_ ∨ P1_3_ k_) ∨ w.heap.size ≤ k_) ∧ some k_ ≠ (.slice Ao38 t110.length co38 : Value).ownBlock ∧ k_ ≠ gb109)) (kV HO_110003) hg hat); replace BK109 := aZ_ (blk_grown (g := gb109) (o := .cells #[.string a1_0, .string a1_1, .slice A1_2 l1_2.length c1_2, .slice A1_3 l1_3.length c1_3] 38 (0, 0)) (bk BK109) hg (Kd.N_away HO141.out (fun _ hk => hk.2))); replace HO138 := aZ_ (Kd.V_afterv (ok := (fun k_ => ((P0_ k_ ∨ P1_2_ k_ ∨ P1_3_ k_) ∨ w.heap.size ≤ k_) ∧ k_ ≠ gb109)) (kV HO138) hg hat); replace HB := aZ_ (hb); have HO144 := aZ_ (ho); clear HO141; clear ho hb hg hat; have q43 : (x5_1 : Int) ≤ ((t110.length : Int) : Int) := of_decide_eq_true asm_; obtain ⟨i043, hi043, _, hsz43, _⟩ := info_parts info38; have hroom43 : t110.length ≤ co38 := (Kd.N_reads' HO_0.out).2.1; have hC43 : Kd.F k38 _ _ Ao38 t110.length t110 := (Kd.V_at (base := w.heap.size) (Kd.N_V HO_0.out)).2.2; have q043 : (0 : Int) ≤ (x5_1 : Int) := of_decide_eq_true asm_; have hcut43 := cut_from (P := Try.prog) 25 38 .i64 Try.underlying25 hi043 4 hsz43 Ao38 t110.length co38 x5_1 q043 q43; have hr43 := Kd.F_cut (m := (x5_1 : Int).toNat) (c := co38) hC43 (by omega) hroom43; obtain ⟨A43, hA43⟩ : ∃ A1, A1 = (if co38 = (x5_1 : Int).toNat then Ao38 else (Ao38 : Option Addr).map (·.add ((x5_1 : Int).toNat * 4))) := ⟨_, rfl⟩; obtain ⟨c43, hc43⟩ : ∃ c1, c1 = co38 - (x5_1 : Int).toNat := ⟨_, rfl⟩; have hy43 : y145.length = t110.length - (x5_1 : Int).toNat := (by rw [Ny145.out, List.length_drop] <;> omega); rw [show (t110).drop (x5_1 : Int).toNat = y145 from Ny145.out.symm] at hr43; replace hr43 : Kd.F k38 _ _ A43 y145.length y145 := (by rw [hA43]; exact hr43); rw [← hy43, ← hA43, ← hc43] at hcut43; have HO149 := aZ_ (show Kd.V k38 38 _ w.heap.size _ (.slice A43 y145.length c43) y145 from Kd.V_mk (by rw [hy43, hc43]; exact Nat.sub_le_sub_right hroom43 _) hr43); have HC149 := aZ_ (show y145.length ≤ c43 from by rw [hy43, hc43]; exact Nat.sub_le_sub_right hroom43 _); clear hr43 hC43 hroom43 hi043 hsz43 hc43; have KY43 := aZ_ hy43; have KA43 := aZ_ hA43; clear hy43 hA43; replace q43 := eq_true q43) | ((with_reducible refine gate_builtin (b := .append) (xs := #[.tmp 36, .tmp 39]) rfl ?_); at_builtin; refine Kd.N_append_rows k38 (w0 := w) w.heap.size rfl (.tmp 36) (.tmp 39) 25 38 (.agg #[(.string ⟨#[]⟩), (.string ⟨#[]⟩), (.slice none 0 0), (.slice none 0 0)]) 80 rfl Try.underlying25 info38 rfl (by decide) (by omega) v143 y142 y145 _ _ _ (fun k_ => ((P0_ k_ ∨ P1_2_ k_ ∨ P1_3_ k_) ∨ w.heap.size ≤ k_) ∧ k_ ≠ gb109) (fun k_ => ((fun k_ => ((P0_ k_ ∨ P1_2_ k_ ∨ P1_3_ k_) ∨ w.heap.size ≤ k_) ∧ k_ ≠ gb109)) k_ ∧ some k_ ≠ (v143 : Value).ownBlock) rfl rfl ?aO ?aR (fun _ hk => hk) ?aF ?aB ?aS ?aL ?_; (case aR => exact (by skip; exact Kd.V_F (Kd.V_mono (ok' := (fun k_ => ((fun k_ => ((P0_ k_ ∨ P1_2_ k_ ∨ P1_3_ k_) ∨ w.heap.size ≤ k_) ∧ k_ ≠ gb109)) k_ ∧ some k_ ≠ (v143 : Value).ownBlock)) (HO149.out) (fun k_ hk => ⟨⟨hk.1.1, hk.1.2⟩, hk.2⟩)))); (case aB => exact (bl1 HB GE109)); (case aF => exact (fun k_ hk => ⟨(.inr (Nat.le_trans (below_size (bl1 HB GE109)) hk)), Kd.freshB (g := gb109) (o := .cells #[.string a1_0, .string a1_1, .slice A1_2 l1_2.length c1_2, .slice A1_3 l1_3.length c1_3] 38 (0, 0)) (bk BK109) k_ hk⟩)); (case aO => exact (kN HO144)); (case aS => exact (below_size (bl1 HB GE109))); (case aL => have := LMc36.out; omega); intro v151 w44 ho hb hg hat; rw [← Ny150.out] at ho; replace HO_0 := aZ_ (Kd.N_afterv (ok := (fun k_ => ((P0_ k_ ∨ P1_2_ k_ ∨ P1_3_ k_) ∨ w.heap.size ≤ k_) ∧ k_ ≠ gb109)) (kN HO_0) hg hat); replace HO_110002 := aZ_ (Kd.V_afterv (ok := (fun k_ => ((P0_ k_ ∨ P1_2_ k_ ∨ P1_3_ k_) ∨ w.heap.size ≤ k_) ∧ some k_ ≠ (.slice Ao38 t110.length co38 : Value).ownBlock ∧ k_ ≠ gb109)) (kV HO_110002) hg hat); replace HO_110003 := aZ_ (Kd.V_afterv (ok := (fun k_ => ((P0_ k_ ∨ P1_2_ k_ ∨ P1_3_ k_) ∨ w.heap.size ≤ k_) ∧ some k_ ≠ (.slice Ao38 t110.length co38 : Value).ownBlock ∧ k_ ≠ gb109)) (kV HO_110003) hg hat); replace BK109 := aZ_ (blk_grown (g := gb109) (o := .cells #[.string a1_0, .string a1_1, .slice A1_2 l1_2.length c1_2, .slice A1_3 l1_3.length c1_3] 38 (0, 0)) (bk BK109) hg (Kd.N_away HO144.out (fun _ hk => hk.2))); replace HO138 := aZ_ (Kd.V_afterv (ok := (fun k_ => ((P0_ k_ ∨ P1_2_ k_ ∨ P1_3_ k_) ∨ w.heap.size ≤ k_) ∧ k_ ≠ gb109)) (kV HO138) hg hat); replace HO149 := aZ_ (Kd.V_afterv (ok := (fun k_ => ((P0_ k_ ∨ P1_2_ k_ ∨ P1_3_ k_) ∨ w.heap.size ≤ k_) ∧ k_ ≠ gb109)) (kV HO149) hg hat); replace HB := aZ_ (hb); have HO152 := aZ_ (ho); clear HO144; clear ho hb hg hat))
         go_ret
         exact ⟨_, by first | rfl | (simp [errW_none, errW_some] <;> rfl) | (simp [*, errW_none, errW_some] <;> rfl), by (with_reducible repeat (first | apply Kd.N_alloc | apply Kd.N_drewN | apply Kd.N_drew)); exact Kd.N_mono HO152.out (fun _ hk => hk.1), bl1 HB GE109⟩
        ·
         rw [if_neg c36] at H
         exact absurd H (by simp)
       ·
        rw [if_neg c33] at H
        exact absurd H (by simp)
      ·
       rw [if_neg c32] at H
       exact absurd H (by simp)
     ·
      rw [if_neg c31] at H
      exact absurd H (by simp)
    ·
     rw [if_neg c30] at H
     exact absurd H (by simp)

/-! ### chancellaw3_within: function 58 -/
def chancellaw3_within.f (a0 : Int) (a1 : Int) : Option (Int) := if a1 = 0 then (none) else (if (Int.tmod a0 a1) < 0 then (some (wrap64 ((Int.tmod a0 a1) + a1))) else (some (Int.tmod a0 a1)))
set_option maxHeartbeats 8000000 in
set_option maxRecDepth 100000 in
theorem chancellaw3_within.calls (a0 : Int) (a1 : Int) (r : Int) (w : World) (h : chancellaw3_within.f a0 a1 = some r) :
  Calls Try.prog 58 #[.int .i64 a0, .int .i64 a1] w fun e w' => e = .returned (.int .i64 r) ∧ Drawn0 w w' := by
 have H : (if a1 = 0 then (none) else (if (Int.tmod a0 a1) < 0 then (some (wrap64 ((Int.tmod a0 a1) + a1))) else (some (Int.tmod a0 a1)))) = some r := h
 clear h
 by_cases c3 : a1 = 0
 ·
  rw [if_pos c3] at H
  exact absurd H (by simp)
 ·
  rw [if_neg c3] at H
  have c3b0 : (a1 == 0) = false := beq_eq_false_iff_ne.mpr c3
  have c3b1 : (a1 != 0) = true := bne_iff_ne.mpr c3
  by_cases c4 : (Int.tmod a0 a1) < 0
  ·
   rw [if_pos c4] at H
   have c4b0 : decide ((Int.tmod a0 a1) < 0) = true := decide_eq_true c4
   clear c4
   obtain rfl := Option.some.inj H
   go_enter Try.func58, Try.ntmps58
   go_wp2
   go_ret
   exact ⟨by first | rfl | (simp; done) | (simp [*]; done), by repeat (first | exact Drawn0.refl _ | apply Drawn0.step)⟩
  ·
   rw [if_neg c4] at H
   have c4b0 : decide ((Int.tmod a0 a1) < 0) = false := decide_eq_false c4
   clear c4
   obtain rfl := Option.some.inj H
   go_enter Try.func58, Try.ntmps58
   go_wp2
   go_ret
   exact ⟨by first | rfl | (simp; done) | (simp [*]; done), by repeat (first | exact Drawn0.refl _ | apply Drawn0.step)⟩

/-! ### chancellaw1_within: function 126 -/
def chancellaw1_within.f (a0 : Int) (a1 : Int) : Option (Int) := if a1 = 0 then (none) else (if (Int.tmod a0 a1) < 0 then (some (wrap64 ((Int.tmod a0 a1) + a1))) else (some (Int.tmod a0 a1)))
set_option maxHeartbeats 8000000 in
set_option maxRecDepth 100000 in
theorem chancellaw1_within.calls (a0 : Int) (a1 : Int) (r : Int) (w : World) (h : chancellaw1_within.f a0 a1 = some r) :
  Calls Try.prog 126 #[.int .i64 a0, .int .i64 a1] w fun e w' => e = .returned (.int .i64 r) ∧ Drawn0 w w' := by
 have H : (if a1 = 0 then (none) else (if (Int.tmod a0 a1) < 0 then (some (wrap64 ((Int.tmod a0 a1) + a1))) else (some (Int.tmod a0 a1)))) = some r := h
 clear h
 by_cases c3 : a1 = 0
 ·
  rw [if_pos c3] at H
  exact absurd H (by simp)
 ·
  rw [if_neg c3] at H
  have c3b0 : (a1 == 0) = false := beq_eq_false_iff_ne.mpr c3
  have c3b1 : (a1 != 0) = true := bne_iff_ne.mpr c3
  by_cases c4 : (Int.tmod a0 a1) < 0
  ·
   rw [if_pos c4] at H
   have c4b0 : decide ((Int.tmod a0 a1) < 0) = true := decide_eq_true c4
   clear c4
   obtain rfl := Option.some.inj H
   go_enter Try.func126, Try.ntmps126
   go_wp2
   go_ret
   exact ⟨by first | rfl | (simp; done) | (simp [*]; done), by repeat (first | exact Drawn0.refl _ | apply Drawn0.step)⟩
  ·
   rw [if_neg c4] at H
   have c4b0 : decide ((Int.tmod a0 a1) < 0) = false := decide_eq_false c4
   clear c4
   obtain rfl := Option.some.inj H
   go_enter Try.func126, Try.ntmps126
   go_wp2
   go_ret
   exact ⟨by first | rfl | (simp; done) | (simp [*]; done), by repeat (first | exact Drawn0.refl _ | apply Drawn0.step)⟩

/-! ### chancelref1_Is: function 148 -/
def chancelref1_Is.f (a0 : Int) : Option (Bool) := if a0 ≥ 0 then (if a0 ≤ 1114111 then (if a0 < 55296 then (some true) else (some (decide (a0 > 57343)))) else (some false)) else (some false)
set_option maxHeartbeats 8000000 in
set_option maxRecDepth 100000 in
theorem chancelref1_Is.calls (a0 : Int) (r : Bool) (w : World) (h : chancelref1_Is.f a0 = some r) :
  Calls Try.prog 148 #[.int .i32 a0] w fun e w' => e = .returned (.bool r) ∧ Drawn0 w w' := by
 have H : (if a0 ≥ 0 then (if a0 ≤ 1114111 then (if a0 < 55296 then (some true) else (some (decide (a0 > 57343)))) else (some false)) else (some false)) = some r := h
 clear h
 by_cases c2 : a0 ≥ 0
 ·
  rw [if_pos c2] at H
  have c2b0 : decide (0 ≤ a0) = true := decide_eq_true c2
  clear c2
  by_cases c3 : a0 ≤ 1114111
  ·
   rw [if_pos c3] at H
   have c3b0 : decide (a0 ≤ 1114111) = true := decide_eq_true c3
   clear c3
   by_cases c4 : a0 < 55296
   ·
    rw [if_pos c4] at H
    have c4b0 : decide (a0 < 55296) = true := decide_eq_true c4
    clear c4
    obtain rfl := Option.some.inj H
    go_enter Try.func148, Try.ntmps148
    go_wp2
    go_ret
    exact ⟨by first | rfl | (simp; done) | (simp [*]; done), by repeat (first | exact Drawn0.refl _ | apply Drawn0.step)⟩
   ·
    rw [if_neg c4] at H
    have c4b0 : decide (a0 < 55296) = false := decide_eq_false c4
    clear c4
    obtain rfl := Option.some.inj H
    go_enter Try.func148, Try.ntmps148
    go_wp2
    go_ret
    exact ⟨by first | rfl | (simp; done) | (simp [*]; done), by repeat (first | exact Drawn0.refl _ | apply Drawn0.step)⟩
  ·
   rw [if_neg c3] at H
   have c3b0 : decide (a0 ≤ 1114111) = false := decide_eq_false c3
   clear c3
   obtain rfl := Option.some.inj H
   go_enter Try.func148, Try.ntmps148
   go_wp2
   go_ret
   exact ⟨by first | rfl | (simp; done) | (simp [*]; done), by repeat (first | exact Drawn0.refl _ | apply Drawn0.step)⟩
 ·
  rw [if_neg c2] at H
  have c2b0 : decide (0 ≤ a0) = false := decide_eq_false c2
  clear c2
  obtain rfl := Option.some.inj H
  go_enter Try.func148, Try.ntmps148
  go_wp2
  go_ret
  exact ⟨by first | rfl | (simp; done) | (simp [*]; done), by repeat (first | exact Drawn0.refl _ | apply Drawn0.step)⟩

end Go.Proofs.Ytelibndkkokadaa.GB
namespace Go.Proofs.Ytelibndkkokadaa.GB
open Go.RowKit Go.Proofs.YtelibndkkokadaaW.PrintWords Go.Proofs.YtelibndkkokadaaW.PrintLast Go.Proofs.Ytelibndkkokadaa.HandV Go.Proofs.YtelibndkkokadaaW.PrintMore
attribute [local go_sem] max2_int min2_int max_two min_two max_three min_three max_four min_four   -- for this text's walks alone
set_option linter.unusedVariables false
set_option linter.unusedSimpArgs false

/-! ### chancelref1_put: function 149 -/
def chancelref1_put.f (l0 : List Int) (a1 : Int) : Option (List Int) := if a1 < 128 then (if l0.length < 140737488355328 then (some (l0 ++ [(a1) % 256])) else (none)) else (if a1 < 2048 then ((some (([Go.bits .or .u8 192 ((a1 / 64) % 256), Go.bits .or .u8 128 ((Go.bits .and .i32 a1 63) % 256)] : List Int) : List Int)).bind fun y156 => (if l0.length + y156.length < 140737488355328 then (some (l0 ++ y156)) else (none))) else (if a1 < 65536 then ((some (([Go.bits .or .u8 224 ((a1 / 4096) % 256), Go.bits .or .u8 128 ((Go.bits .and .i32 (a1 / 64) 63) % 256), Go.bits .or .u8 128 ((Go.bits .and .i32 a1 63) % 256)] : List Int) : List Int)).bind fun y162 => (if l0.length + y162.length < 140737488355328 then (some (l0 ++ y162)) else (none))) else ((some (([Go.bits .or .u8 240 ((a1 / 262144) % 256), Go.bits .or .u8 128 ((Go.bits .and .i32 (a1 / 4096) 63) % 256), Go.bits .or .u8 128 ((Go.bits .and .i32 (a1 / 64) 63) % 256), Go.bits .or .u8 128 ((Go.bits .and .i32 a1 63) % 256)] : List Int) : List Int)).bind fun y168 => (if l0.length + y168.length < 140737488355328 then (some (l0 ++ y168)) else (none)))))
set_option maxHeartbeats 8000000 in
set_option maxRecDepth 100000 in
theorem chancelref1_put.calls (P0_ : Nat → Prop) (u9000_ : Value) (l0 : List Int) (a1 : Int) (r : List Int) (w0 w : World) (hB : Below w0.heap.size w0 w) (ho0 : Kd.R (Kd.int .u8) 5 w w0.heap.size P0_ u9000_ l0) (h : chancelref1_put.f l0 a1 = some r) :
  Calls Try.prog 149 #[u9000_, .int .i32 a1] w fun e w' => ∃ v0_ : Value, e = .returned (v0_) ∧ Kd.R (Kd.int .u8) 5 w' w0.heap.size (fun k_ => (P0_ k_ ∨ w.heap.size ≤ k_)) v0_ r ∧ Below w0.heap.size w0 w' ∧ Kept w w' (fun k_ => P0_ k_) := by
 have HO0 := aZ_ (show Kd.R (Kd.int .u8) 5 w w0.heap.size (fun k_ => (P0_ k_ ∨ w.heap.size ≤ k_)) u9000_ l0 from Kd.R_mono ho0 (fun k_ hk => (.inl hk)))
 have HK := aZ_ (Kept.refl w (fun k_ => P0_ k_))
 have HW0 := aZ_ hB.size
 have HB := aZ_ hB
 clear hB
 have H : (if a1 < 128 then (if l0.length < 140737488355328 then (some (l0 ++ [(a1) % 256])) else (none)) else (if a1 < 2048 then ((some (([Go.bits .or .u8 192 ((a1 / 64) % 256), Go.bits .or .u8 128 ((Go.bits .and .i32 a1 63) % 256)] : List Int) : List Int)).bind fun y156 => (if l0.length + y156.length < 140737488355328 then (some (l0 ++ y156)) else (none))) else (if a1 < 65536 then ((some (([Go.bits .or .u8 224 ((a1 / 4096) % 256), Go.bits .or .u8 128 ((Go.bits .and .i32 (a1 / 64) 63) % 256), Go.bits .or .u8 128 ((Go.bits .and .i32 a1 63) % 256)] : List Int) : List Int)).bind fun y162 => (if l0.length + y162.length < 140737488355328 then (some (l0 ++ y162)) else (none))) else ((some (([Go.bits .or .u8 240 ((a1 / 262144) % 256), Go.bits .or .u8 128 ((Go.bits .and .i32 (a1 / 4096) 63) % 256), Go.bits .or .u8 128 ((Go.bits .and .i32 (a1 / 64) 63) % 256), Go.bits .or .u8 128 ((Go.bits .and .i32 a1 63) % 256)] : List Int) : List Int)).bind fun y168 => (if l0.length + y168.length < 140737488355328 then (some (l0 ++ y168)) else (none)))))) = some r := h
 clear h
 by_cases c3 : a1 < 128
 ·
  rw [if_pos c3] at H
  have c3b0 : decide (a1 < 128) = true := decide_eq_true c3
  clear c3
  by_cases c4 : l0.length < 140737488355328
  ·
   rw [if_pos c4] at H
   have LMc4 := aZ_ c4
   clear c4
   obtain ⟨y153, hy153⟩ : ∃ y_ : List Int, y_ = (l0 ++ [(a1) % 256]) := ⟨_, rfl⟩
   replace H : (some y153) = some r := by first | (rw [hy153]; with_reducible exact H) | (have H2_ := (Option.bind_some _ _).symm.trans H; rw [hy153]; with_reducible exact H2_) | (have H2_ := (Option.bind_some _ _).symm.trans H; with_reducible exact H2_) | with_reducible exact H | (rw [hy153]; exact H) | exact H
   have Ny153 := aZ_ hy153
   clear hy153
   obtain rfl := Option.some.inj H
   go_enter Try.func149, Try.ntmps149
   go_wp2_with (first | ((with_reducible refine gate_builtin (b := .append) (xs := #[.tmp 8, .tmp 11]) rfl ?_); at_builtin; refine Kd.R_append (Kd.int .u8) (w0 := w0) w0.heap.size rfl (.tmp 8) (.tmp 11) 45 5 (.int .u8 0) 1 rfl Try.underlying45 info5 rfl (by decide) (by omega) u9000_ l0 ((a1) % 256) [.int .u8 ((a1) % 256)] (fun k_ => (P0_ k_ ∨ w.heap.size ≤ k_)) (fun _ => False) rfl rfl ?aP (fun _ hk => hk.elim) ?aF ?aO ?aB ?aS ?aL ?_; (case aP => exact rfl); (case aB => exact (bl HB)); (case aF => exact (fun k_ hk => (.inr (Nat.le_trans (by first | exact HK.out.1 | exact (show Kept w _ (fun k_ => P0_ k_) from by repeat (first | (with_reducible first | exact HK.out | apply Kept.alloc | apply Kept.drewN | apply Kept.drew) | exact HK.out)).1) hk)))); (case aO => exact (kR HO0)); (case aS => exact (below_size (bl HB))); (case aL => have := LMc4.out; omega); intro v154 w5 ho hb hg hat; rw [← Ny153.out] at ho; replace HB := aZ_ (hb); replace HK := aZ_ (Kept.of_grown (S := (fun k_ => P0_ k_)) hg (by repeat (first | (with_reducible first | exact HK.out | apply Kept.alloc | apply Kept.drewN | apply Kept.drew) | exact HK.out)) (fun k_ e_ => (HO0.out.1 k_ e_))); have HO155 := aZ_ (ho); clear HO0; clear ho hb hg hat))
   go_ret
   exact ⟨_, by first | rfl | (simp [errW_none, errW_some] <;> rfl) | (simp [*, errW_none, errW_some] <;> rfl), by (with_reducible repeat (first | apply Kd.R_alloc | apply Kd.R_drewN | apply Kd.R_drew)); exact HO155.out, bl HB, by repeat (first | (with_reducible first | exact HK.out | apply Kept.alloc | apply Kept.drewN | apply Kept.drew) | exact HK.out)⟩
  ·
   rw [if_neg c4] at H
   exact absurd H (by simp)
 ·
  rw [if_neg c3] at H
  have c3b0 : decide (a1 < 128) = false := decide_eq_false c3
  clear c3
  by_cases c6 : a1 < 2048
  ·
   rw [if_pos c6] at H
   have c6b0 : decide (a1 < 2048) = true := decide_eq_true c6
   clear c6
   obtain ⟨y156, hy156⟩ : ∃ y_ : List Int, y_ = (([Go.bits .or .u8 192 ((a1 / 64) % 256), Go.bits .or .u8 128 ((Go.bits .and .i32 a1 63) % 256)] : List Int)) := ⟨_, rfl⟩
   replace H : (if l0.length + y156.length < 140737488355328 then (some (l0 ++ y156)) else (none)) = some r := by first | (rw [hy156]; with_reducible exact H) | (have H2_ := (Option.bind_some _ _).symm.trans H; rw [hy156]; with_reducible exact H2_) | (have H2_ := (Option.bind_some _ _).symm.trans H; with_reducible exact H2_) | with_reducible exact H | (rw [hy156]; exact H) | exact H
   have Ny156 := aZ_ hy156
   clear hy156
   by_cases c7 : l0.length + y156.length < 140737488355328
   ·
    rw [if_pos c7] at H
    have LMc7 := aZ_ c7
    clear c7
    obtain ⟨y159, hy159⟩ : ∃ y_ : List Int, y_ = (l0 ++ y156) := ⟨_, rfl⟩
    replace H : (some y159) = some r := by first | (rw [hy159]; with_reducible exact H) | (have H2_ := (Option.bind_some _ _).symm.trans H; rw [hy159]; with_reducible exact H2_) | (have H2_ := (Option.bind_some _ _).symm.trans H; with_reducible exact H2_) | with_reducible exact H | (rw [hy159]; exact H) | exact H
    have Ny159 := aZ_ hy159
    clear hy159
    obtain rfl := Option.some.inj H
    go_enter Try.func149, Try.ntmps149
    go_wp2_with (first | ((with_reducible refine gate_dst (N := 25) rfl ?_); refine Kd.R_lit (Kd.int .u8) _ 5 ?hg (N := 25) ?hd (xs := ([Go.bits .or .u8 192 ((a1 / 64) % 256), Go.bits .or .u8 128 ((Go.bits .and .i32 a1 63) % 256)] : List Int)) (inner := [.int .u8 (Go.bits .or .u8 192 ((a1 / 64) % 256)), .int .u8 (Go.bits .or .u8 128 ((Go.bits .and .i32 a1 63) % 256))]) (ok := fun _ => True) (okp := fun _ => True) ?hr ?hp (fun _ hk => hk) trivial (Below.refl _ _) (Nat.le_refl _) (by simp) ?_; (case hd => rfl); (case hg => rfl); (case hr => first | (go_simp; done) | (go_simp; rfl)); (case hp => exact (Reps.one (show Kd.M (Kd.int .u8) _ _ _ (Go.bits .or .u8 192 ((a1 / 64) % 256)) [.int .u8 (Go.bits .or .u8 192 ((a1 / 64) % 256))] from rfl) (Reps.one (show Kd.M (Kd.int .u8) _ _ _ (Go.bits .or .u8 128 ((Go.bits .and .i32 a1 63) % 256)) [.int .u8 (Go.bits .or .u8 128 ((Go.bits .and .i32 a1 63) % 256))] from rfl) (Reps.none _ _)))); intro v157 w8 ho9 hb hg_ hnew_; clear hg_ hnew_; (first | rw [← Ny156.out] at ho9 | (simp only [Int.reduceToNat] at ho9; rw [← Ny156.out] at ho9)); have HO158 := aZ_ (Kd.R_lower (Kd.R_new' (Kd.R_newM (M := fun k_ => (P0_ k_ ∨ w.heap.size ≤ k_)) ho9 (by first | exact HK.out.1 | exact (show Kept w _ (fun k_ => P0_ k_) from by repeat (first | (with_reducible first | exact HK.out | apply Kept.alloc | apply Kept.drewN | apply Kept.drew) | exact HK.out)).1) (fun k_ h_ => .inr h_)) (Kd.R_lt (kR HO0))) (below_size (bl HB))); replace HO0 := aZ_ (Kd.R_elder' (kR HO0) (Kd.R_base ho9) hb); replace HK := aZ_ (Kept.below (S := (fun k_ => P0_ k_)) (by repeat (first | (with_reducible first | exact HK.out | apply Kept.alloc | apply Kept.drewN | apply Kept.drew) | exact HK.out)) hb); replace HB := aZ_ (below_step (bl HB) hb); clear hb ho9; obtain ⟨Ao11, co11, eo11⟩ := Kd.R_slice HO158.out; subst eo11) | ((with_reducible refine gate_builtin (b := .append) (xs := #[.tmp 16, .tmp 25]) rfl ?_); at_builtin; refine Kd.R_append_rows (Kd.int .u8) (w0 := w0) w0.heap.size rfl (.tmp 16) (.tmp 25) 45 5 (.int .u8 0) 1 rfl Try.underlying45 info5 rfl (by decide) (by omega) u9000_ l0 y156 _ _ _ (fun k_ => (P0_ k_ ∨ w.heap.size ≤ k_) ∧ some k_ ≠ (.slice Ao11 y156.length co11 : Value).ownBlock) (fun _ => False) rfl rfl ?aO ?aR (fun _ _ h => h) (fun _ h => h.elim) ?aF ?aB ?aS ?aL ?_; (case aR => repeat (first | exact (Kd.R_reads' HO158.out).2.2 | (with_reducible refine Kd.C_alloc ?_ _) | (with_reducible refine Kd.C_drewN ?_ _) | (with_reducible refine Kd.C_drew ?_))); (case aB => exact (bl HB)); (case aF => exact (fun k_ hk => ⟨(.inr (Nat.le_trans (by first | exact HK.out.1 | exact (show Kept w _ (fun k_ => P0_ k_) from by repeat (first | (with_reducible first | exact HK.out | apply Kept.alloc | apply Kept.drewN | apply Kept.drew) | exact HK.out)).1) hk)), Kd.fresh' (Kd.R_lt (kR HO158)) k_ hk⟩)); (case aO => exact (kR HO0)); (case aS => exact (below_size (bl HB))); (case aL => have := LMc7.out; omega); intro v160 w10 ho hb hg hat; rw [← Ny159.out] at ho; replace HO158 := aZ_ (Kd.R_after (ok := (fun k_ => (P0_ k_ ∨ w.heap.size ≤ k_))) (by (with_reducible repeat (first | apply Kd.R_alloc | apply Kd.R_drewN | apply Kd.R_drew)); exact Kd.R_mono HO158.out (fun _ hk => ⟨hk.1.1, hk.2⟩)) hg hat); replace HB := aZ_ (hb); replace HK := aZ_ (Kept.of_grown (S := (fun k_ => P0_ k_)) hg (by repeat (first | (with_reducible first | exact HK.out | apply Kept.alloc | apply Kept.drewN | apply Kept.drew) | exact HK.out)) (fun k_ e_ => (HO0.out.1 k_ e_).1)); have HO161 := aZ_ (ho); clear HO0; clear ho hb hg hat))
    go_ret
    exact ⟨_, by first | rfl | (simp [errW_none, errW_some] <;> rfl) | (simp [*, errW_none, errW_some] <;> rfl), by (with_reducible repeat (first | apply Kd.R_alloc | apply Kd.R_drewN | apply Kd.R_drew)); exact Kd.R_mono HO161.out (fun _ hk => hk.1), bl HB, by repeat (first | (with_reducible first | exact HK.out | apply Kept.alloc | apply Kept.drewN | apply Kept.drew) | exact HK.out)⟩
   ·
    rw [if_neg c7] at H
    exact absurd H (by simp)
  ·
   rw [if_neg c6] at H
   have c6b0 : decide (a1 < 2048) = false := decide_eq_false c6
   clear c6
   by_cases c12 : a1 < 65536
   ·
    rw [if_pos c12] at H
    have c12b0 : decide (a1 < 65536) = true := decide_eq_true c12
    clear c12
    obtain ⟨y162, hy162⟩ : ∃ y_ : List Int, y_ = (([Go.bits .or .u8 224 ((a1 / 4096) % 256), Go.bits .or .u8 128 ((Go.bits .and .i32 (a1 / 64) 63) % 256), Go.bits .or .u8 128 ((Go.bits .and .i32 a1 63) % 256)] : List Int)) := ⟨_, rfl⟩
    replace H : (if l0.length + y162.length < 140737488355328 then (some (l0 ++ y162)) else (none)) = some r := by first | (rw [hy162]; with_reducible exact H) | (have H2_ := (Option.bind_some _ _).symm.trans H; rw [hy162]; with_reducible exact H2_) | (have H2_ := (Option.bind_some _ _).symm.trans H; with_reducible exact H2_) | with_reducible exact H | (rw [hy162]; exact H) | exact H
    have Ny162 := aZ_ hy162
    clear hy162
    by_cases c13 : l0.length + y162.length < 140737488355328
    ·
     rw [if_pos c13] at H
     have LMc13 := aZ_ c13
     clear c13
     obtain ⟨y165, hy165⟩ : ∃ y_ : List Int, y_ = (l0 ++ y162) := ⟨_, rfl⟩
     replace H : (some y165) = some r := by first | (rw [hy165]; with_reducible exact H) | (have H2_ := (Option.bind_some _ _).symm.trans H; rw [hy165]; with_reducible exact H2_) | (have H2_ := (Option.bind_some _ _).symm.trans H; with_reducible exact H2_) | with_reducible exact H | (rw [hy165]; exact H) | exact H
     have Ny165 := aZ_ hy165
     clear hy165
     obtain rfl := Option.some.inj H
     go_enter Try.func149, Try.ntmps149
     go_wp2_with (first | ((with_reducible refine gate_dst (N := 44) rfl ?_); refine Kd.R_lit (Kd.int .u8) _ 5 ?hg (N := 44) ?hd (xs := ([Go.bits .or .u8 224 ((a1 / 4096) % 256), Go.bits .or .u8 128 ((Go.bits .and .i32 (a1 / 64) 63) % 256), Go.bits .or .u8 128 ((Go.bits .and .i32 a1 63) % 256)] : List Int)) (inner := [.int .u8 (Go.bits .or .u8 224 ((a1 / 4096) % 256)), .int .u8 (Go.bits .or .u8 128 ((Go.bits .and .i32 (a1 / 64) 63) % 256)), .int .u8 (Go.bits .or .u8 128 ((Go.bits .and .i32 a1 63) % 256))]) (ok := fun _ => True) (okp := fun _ => True) ?hr ?hp (fun _ hk => hk) trivial (Below.refl _ _) (Nat.le_refl _) (by simp) ?_; (case hd => rfl); (case hg => rfl); (case hr => first | (go_simp; done) | (go_simp; rfl)); (case hp => exact (Reps.one (show Kd.M (Kd.int .u8) _ _ _ (Go.bits .or .u8 224 ((a1 / 4096) % 256)) [.int .u8 (Go.bits .or .u8 224 ((a1 / 4096) % 256))] from rfl) (Reps.one (show Kd.M (Kd.int .u8) _ _ _ (Go.bits .or .u8 128 ((Go.bits .and .i32 (a1 / 64) 63) % 256)) [.int .u8 (Go.bits .or .u8 128 ((Go.bits .and .i32 (a1 / 64) 63) % 256))] from rfl) (Reps.one (show Kd.M (Kd.int .u8) _ _ _ (Go.bits .or .u8 128 ((Go.bits .and .i32 a1 63) % 256)) [.int .u8 (Go.bits .or .u8 128 ((Go.bits .and .i32 a1 63) % 256))] from rfl) (Reps.none _ _))))); intro v163 w14 ho15 hb hg_ hnew_; clear hg_ hnew_; (first | rw [← Ny162.out] at ho15 | (simp only [Int.reduceToNat] at ho15; rw [← Ny162.out] at ho15)); have HO164 := aZ_ (Kd.R_lower (Kd.R_new' (Kd.R_newM (M := fun k_ => (P0_ k_ ∨ w.heap.size ≤ k_)) ho15 (by first | exact HK.out.1 | exact (show Kept w _ (fun k_ => P0_ k_) from by repeat (first | (with_reducible first | exact HK.out | apply Kept.alloc | apply Kept.drewN | apply Kept.drew) | exact HK.out)).1) (fun k_ h_ => .inr h_)) (Kd.R_lt (kR HO0))) (below_size (bl HB))); replace HO0 := aZ_ (Kd.R_elder' (kR HO0) (Kd.R_base ho15) hb); replace HK := aZ_ (Kept.below (S := (fun k_ => P0_ k_)) (by repeat (first | (with_reducible first | exact HK.out | apply Kept.alloc | apply Kept.drewN | apply Kept.drew) | exact HK.out)) hb); replace HB := aZ_ (below_step (bl HB) hb); clear hb ho15; obtain ⟨Ao17, co17, eo17⟩ := Kd.R_slice HO164.out; subst eo17) | ((with_reducible refine gate_builtin (b := .append) (xs := #[.tmp 30, .tmp 44]) rfl ?_); at_builtin; refine Kd.R_append_rows (Kd.int .u8) (w0 := w0) w0.heap.size rfl (.tmp 30) (.tmp 44) 45 5 (.int .u8 0) 1 rfl Try.underlying45 info5 rfl (by decide) (by omega) u9000_ l0 y162 _ _ _ (fun k_ => (P0_ k_ ∨ w.heap.size ≤ k_) ∧ some k_ ≠ (.slice Ao17 y162.length co17 : Value).ownBlock) (fun _ => False) rfl rfl ?aO ?aR (fun _ _ h => h) (fun _ h => h.elim) ?aF ?aB ?aS ?aL ?_; (case aR => repeat (first | exact (Kd.R_reads' HO164.out).2.2 | (with_reducible refine Kd.C_alloc ?_ _) | (with_reducible refine Kd.C_drewN ?_ _) | (with_reducible refine Kd.C_drew ?_))); (case aB => exact (bl HB)); (case aF => exact (fun k_ hk => ⟨(.inr (Nat.le_trans (by first | exact HK.out.1 | exact (show Kept w _ (fun k_ => P0_ k_) from by repeat (first | (with_reducible first | exact HK.out | apply Kept.alloc | apply Kept.drewN | apply Kept.drew) | exact HK.out)).1) hk)), Kd.fresh' (Kd.R_lt (kR HO164)) k_ hk⟩)); (case aO => exact (kR HO0)); (case aS => exact (below_size (bl HB))); (case aL => have := LMc13.out; omega); intro v166 w16 ho hb hg hat; rw [← Ny165.out] at ho; replace HO164 := aZ_ (Kd.R_after (ok := (fun k_ => (P0_ k_ ∨ w.heap.size ≤ k_))) (by (with_reducible repeat (first | apply Kd.R_alloc | apply Kd.R_drewN | apply Kd.R_drew)); exact Kd.R_mono HO164.out (fun _ hk => ⟨hk.1.1, hk.2⟩)) hg hat); replace HB := aZ_ (hb); replace HK := aZ_ (Kept.of_grown (S := (fun k_ => P0_ k_)) hg (by repeat (first | (with_reducible first | exact HK.out | apply Kept.alloc | apply Kept.drewN | apply Kept.drew) | exact HK.out)) (fun k_ e_ => (HO0.out.1 k_ e_).1)); have HO167 := aZ_ (ho); clear HO0; clear ho hb hg hat))
     go_ret
     exact ⟨_, by first | rfl | (simp [errW_none, errW_some] <;> rfl) | (simp [*, errW_none, errW_some] <;> rfl), by (with_reducible repeat (first | apply Kd.R_alloc | apply Kd.R_drewN | apply Kd.R_drew)); exact Kd.R_mono HO167.out (fun _ hk => hk.1), bl HB, by repeat (first | (with_reducible first | exact HK.out | apply Kept.alloc | apply Kept.drewN | apply Kept.drew) | exact HK.out)⟩
    ·
     rw [if_neg c13] at H
     exact absurd H (by simp)
   ·
    rw [if_neg c12] at H
    have c12b0 : decide (a1 < 65536) = false := decide_eq_false c12
    clear c12
    obtain ⟨y168, hy168⟩ : ∃ y_ : List Int, y_ = (([Go.bits .or .u8 240 ((a1 / 262144) % 256), Go.bits .or .u8 128 ((Go.bits .and .i32 (a1 / 4096) 63) % 256), Go.bits .or .u8 128 ((Go.bits .and .i32 (a1 / 64) 63) % 256), Go.bits .or .u8 128 ((Go.bits .and .i32 a1 63) % 256)] : List Int)) := ⟨_, rfl⟩
    replace H : (if l0.length + y168.length < 140737488355328 then (some (l0 ++ y168)) else (none)) = some r := by first | (rw [hy168]; with_reducible exact H) | (have H2_ := (Option.bind_some _ _).symm.trans H; rw [hy168]; with_reducible exact H2_) | (have H2_ := (Option.bind_some _ _).symm.trans H; with_reducible exact H2_) | with_reducible exact H | (rw [hy168]; exact H) | exact H
    have Ny168 := aZ_ hy168
    clear hy168
    by_cases c18 : l0.length + y168.length < 140737488355328
    ·
     rw [if_pos c18] at H
     have LMc18 := aZ_ c18
     clear c18
     obtain ⟨y171, hy171⟩ : ∃ y_ : List Int, y_ = (l0 ++ y168) := ⟨_, rfl⟩
     replace H : (some y171) = some r := by first | (rw [hy171]; with_reducible exact H) | (have H2_ := (Option.bind_some _ _).symm.trans H; rw [hy171]; with_reducible exact H2_) | (have H2_ := (Option.bind_some _ _).symm.trans H; with_reducible exact H2_) | with_reducible exact H | (rw [hy171]; exact H) | exact H
     have Ny171 := aZ_ hy171
     clear hy171
     obtain rfl := Option.some.inj H
     go_enter Try.func149, Try.ntmps149
     go_wp2_with (first | ((with_reducible refine gate_dst (N := 65) rfl ?_); refine Kd.R_lit (Kd.int .u8) _ 5 ?hg (N := 65) ?hd (xs := ([Go.bits .or .u8 240 ((a1 / 262144) % 256), Go.bits .or .u8 128 ((Go.bits .and .i32 (a1 / 4096) 63) % 256), Go.bits .or .u8 128 ((Go.bits .and .i32 (a1 / 64) 63) % 256), Go.bits .or .u8 128 ((Go.bits .and .i32 a1 63) % 256)] : List Int)) (inner := [.int .u8 (Go.bits .or .u8 240 ((a1 / 262144) % 256)), .int .u8 (Go.bits .or .u8 128 ((Go.bits .and .i32 (a1 / 4096) 63) % 256)), .int .u8 (Go.bits .or .u8 128 ((Go.bits .and .i32 (a1 / 64) 63) % 256)), .int .u8 (Go.bits .or .u8 128 ((Go.bits .and .i32 a1 63) % 256))]) (ok := fun _ => True) (okp := fun _ => True) ?hr ?hp (fun _ hk => hk) trivial (Below.refl _ _) (Nat.le_refl _) (by simp) ?_; (case hd => rfl); (case hg => rfl); (case hr => first | (go_simp; done) | (go_simp; rfl)); (case hp => exact (Reps.one (show Kd.M (Kd.int .u8) _ _ _ (Go.bits .or .u8 240 ((a1 / 262144) % 256)) [.int .u8 (Go.bits .or .u8 240 ((a1 / 262144) % 256))] from rfl) (Reps.one (show Kd.M (Kd.int .u8) _ _ _ (Go.bits .or .u8 128 ((Go.bits .and .i32 (a1 / 4096) 63) % 256)) [.int .u8 (Go.bits .or .u8 128 ((Go.bits .and .i32 (a1 / 4096) 63) % 256))] from rfl) (Reps.one (show Kd.M (Kd.int .u8) _ _ _ (Go.bits .or .u8 128 ((Go.bits .and .i32 (a1 / 64) 63) % 256)) [.int .u8 (Go.bits .or .u8 128 ((Go.bits .and .i32 (a1 / 64) 63) % 256))] from rfl) (Reps.one (show Kd.M (Kd.int .u8) _ _ _ (Go.bits .or .u8 128 ((Go.bits .and .i32 a1 63) % 256)) [.int .u8 (Go.bits .or .u8 128 ((Go.bits .and .i32 a1 63) % 256))] from rfl) (Reps.none _ _)))))); intro v169 w19 ho20 hb hg_ hnew_; clear hg_ hnew_; (first | rw [← Ny168.out] at ho20 | (simp only [Int.reduceToNat] at ho20; rw [← Ny168.out] at ho20)); have HO170 := aZ_ (Kd.R_lower (Kd.R_new' (Kd.R_newM (M := fun k_ => (P0_ k_ ∨ w.heap.size ≤ k_)) ho20 (by first | exact HK.out.1 | exact (show Kept w _ (fun k_ => P0_ k_) from by repeat (first | (with_reducible first | exact HK.out | apply Kept.alloc | apply Kept.drewN | apply Kept.drew) | exact HK.out)).1) (fun k_ h_ => .inr h_)) (Kd.R_lt (kR HO0))) (below_size (bl HB))); replace HO0 := aZ_ (Kd.R_elder' (kR HO0) (Kd.R_base ho20) hb); replace HK := aZ_ (Kept.below (S := (fun k_ => P0_ k_)) (by repeat (first | (with_reducible first | exact HK.out | apply Kept.alloc | apply Kept.drewN | apply Kept.drew) | exact HK.out)) hb); replace HB := aZ_ (below_step (bl HB) hb); clear hb ho20; obtain ⟨Ao22, co22, eo22⟩ := Kd.R_slice HO170.out; subst eo22) | ((with_reducible refine gate_builtin (b := .append) (xs := #[.tmp 46, .tmp 65]) rfl ?_); at_builtin; refine Kd.R_append_rows (Kd.int .u8) (w0 := w0) w0.heap.size rfl (.tmp 46) (.tmp 65) 45 5 (.int .u8 0) 1 rfl Try.underlying45 info5 rfl (by decide) (by omega) u9000_ l0 y168 _ _ _ (fun k_ => (P0_ k_ ∨ w.heap.size ≤ k_) ∧ some k_ ≠ (.slice Ao22 y168.length co22 : Value).ownBlock) (fun _ => False) rfl rfl ?aO ?aR (fun _ _ h => h) (fun _ h => h.elim) ?aF ?aB ?aS ?aL ?_; (case aR => repeat (first | exact (Kd.R_reads' HO170.out).2.2 | (with_reducible refine Kd.C_alloc ?_ _) | (with_reducible refine Kd.C_drewN ?_ _) | (with_reducible refine Kd.C_drew ?_))); (case aB => exact (bl HB)); (case aF => exact (fun k_ hk => ⟨(.inr (Nat.le_trans (by first | exact HK.out.1 | exact (show Kept w _ (fun k_ => P0_ k_) from by repeat (first | (with_reducible first | exact HK.out | apply Kept.alloc | apply Kept.drewN | apply Kept.drew) | exact HK.out)).1) hk)), Kd.fresh' (Kd.R_lt (kR HO170)) k_ hk⟩)); (case aO => exact (kR HO0)); (case aS => exact (below_size (bl HB))); (case aL => have := LMc18.out; omega); intro v172 w21 ho hb hg hat; rw [← Ny171.out] at ho; replace HO170 := aZ_ (Kd.R_after (ok := (fun k_ => (P0_ k_ ∨ w.heap.size ≤ k_))) (by (with_reducible repeat (first | apply Kd.R_alloc | apply Kd.R_drewN | apply Kd.R_drew)); exact Kd.R_mono HO170.out (fun _ hk => ⟨hk.1.1, hk.2⟩)) hg hat); replace HB := aZ_ (hb); replace HK := aZ_ (Kept.of_grown (S := (fun k_ => P0_ k_)) hg (by repeat (first | (with_reducible first | exact HK.out | apply Kept.alloc | apply Kept.drewN | apply Kept.drew) | exact HK.out)) (fun k_ e_ => (HO0.out.1 k_ e_).1)); have HO173 := aZ_ (ho); clear HO0; clear ho hb hg hat))
     go_ret
     exact ⟨_, by first | rfl | (simp [errW_none, errW_some] <;> rfl) | (simp [*, errW_none, errW_some] <;> rfl), by (with_reducible repeat (first | apply Kd.R_alloc | apply Kd.R_drewN | apply Kd.R_drew)); exact Kd.R_mono HO173.out (fun _ hk => hk.1), bl HB, by repeat (first | (with_reducible first | exact HK.out | apply Kept.alloc | apply Kept.drewN | apply Kept.drew) | exact HK.out)⟩
    ·
     rw [if_neg c18] at H
     exact absurd H (by simp)

/-! ### chancelref1_Of: function 127 -/
def chancelref1_Of.l0 : Nat → List Int → List Int → Int → Option (ByteArray × Int)
 | 0, _, _, _ => none
 | k + 1, x0, x4, x5 => if x5 < (x0.length : Int) then (if 0 ≤ x5 then ((chancelref1_Is.f (rd x0 x5)).bind fun t175 => (if t175 = true then ((chancelref1_put.f x4 (rd x0 x5)).bind fun t177 => (chancelref1_Of.l0 k x0 t177 (wrap64 (x5 + 1)))) else (some ((⟨#[]⟩ : ByteArray), 11)))) else (none)) else (some (strOfNums x4, 0))
def chancelref1_Of.f (k : Nat) (l0 : List Int) : Option (ByteArray × Int) := chancelref1_Of.l0 k l0 ([] : List Int) 0
theorem chancelref1_Of.mono_l : ∀ k, (∀ y0 y1 y2, LeO (chancelref1_Of.l0 k y0 y1 y2) (chancelref1_Of.l0 (k + 1) y0 y1 y2))
 | 0 => fun _ _ _ r h => by simp [chancelref1_Of.l0] at h
 | k + 1 => by
  have ih0 := chancelref1_Of.mono_l k
  ·
   intro y0 y1 y2
   unfold chancelref1_Of.l0
   repeat' first
   | (with_reducible exact ih0 _ _ _)
   | (with_reducible exact LeO.refl _)
   | (with_reducible exact LeO.none _)
   | (with_reducible refine LeO.ite ?_ ?_)
   | (with_reducible refine LeO.bind ?_ (fun _ => ?_))
   | exact ih0 _ _ _
   | exact LeO.none _
   | refine LeO.ite ?_ ?_
   | refine LeO.bind ?_ (fun _ => ?_)
theorem chancelref1_Of.mono : ∀ a0 k, LeO (chancelref1_Of.f k a0) (chancelref1_Of.f (k + 1) a0) := by
 intro a0 k
 have ih0 := chancelref1_Of.mono_l k
 unfold chancelref1_Of.f
 repeat' first
   | (with_reducible exact ih0 _ _ _)
   | (with_reducible exact LeO.refl _)
   | (with_reducible exact LeO.none _)
   | (with_reducible refine LeO.ite ?_ ?_)
   | (with_reducible refine LeO.bind ?_ (fun _ => ?_))
   | exact ih0 _ _ _
   | exact LeO.none _
   | refine LeO.ite ?_ ?_
   | refine LeO.bind ?_ (fun _ => ?_)
set_option maxHeartbeats 8000000 in
set_option maxRecDepth 100000 in
theorem chancelref1_Of.calls (k : Nat) (A0 : Option Addr) (c0 : Nat) (l0 : List Int) (r1 : ByteArray) (r2 : Int) (w : World) (hr0 : Kd.C (Kd.int .i32) w A0 l0.length l0) (hc0 : l0.length ≤ c0) (h : chancelref1_Of.f k l0 = some (r1, r2)) :
  Calls Try.prog 127 #[.slice A0 l0.length c0] w fun e w' => e = .returned (.tuple #[.string r1, .int .i64 r2]) ∧ Below w.heap.size w w' := by
 have HR0 := aZ_ hr0
 have HC0 := aZ_ hc0
 clear hr0 hc0
 have HB := aZ_ (Below.refl w.heap.size w)
 have H : (chancelref1_Of.l0 k l0 ([] : List Int) 0) = some (r1, r2) := h
 clear h
 have H' := aZ_ H
 clear H
 go_enter Try.func127, Try.ntmps127
 go_wp2
 go_loopg [4, 5] k (fun kq v4 v5 w' => ∃ (x4_1 : List Int) (x5_1 : Int), v5 = .int .i64 x5_1 ∧ Aside0 (chancelref1_Of.l0 kq l0 x4_1 x5_1 = some (r1, r2)) ∧ Aside0 (kq ≤ k) ∧ Aside0 (Kd.R (Kd.int .u8) 5 w' w.heap.size (fun _ => True) v4 x4_1) ∧ Aside0 (Below w.heap.size w w'))
 case atStart => exact ⟨(([] : List Int)), (0), rf_, H', ⟨Nat.le_refl _⟩, ⟨by first | exact Kd.R_nil _ _ _ _ _ | exact Kd.N_nil _ _ _ _ _ | exact Kd.V_nil _ _ _ _ _ | exact Kd.Q_nil _ _ _ _ _ | exact Kd.S_nil _ _ _ _ _⟩, ⟨bl HB⟩⟩
 case round =>
  clear H'
  try clear c1
  obtain ⟨x4_1, x5_1, rfl, HA, HK1, HO_4, HB⟩ := hrel
  cases gk with
  | zero => exact absurd HA.out (by simp [chancelref1_Of.l0])
  | succ k1 =>
   have H := HA.out
   clear HA
   simp only [chancelref1_Of.l0] at H
   by_cases c2 : x5_1 < (l0.length : Int)
   ·
    rw [if_pos c2] at H
    have c2b0 : decide (x5_1 < (l0.length : Int)) = true := decide_eq_true c2
    clear c2
    by_cases c3 : 0 ≤ x5_1
    ·
     rw [if_pos c3] at H
     have c3b0 : decide (0 ≤ x5_1) = true := decide_eq_true c3
     clear c3
     replace H := Option.bind_eq_some_iff.mp H
     obtain ⟨t175, A40, H⟩ := H
     replace H : (if t175 = true then ((chancelref1_put.f x4_1 (rd l0 x5_1)).bind fun t177 => (chancelref1_Of.l0 k1 l0 t177 (wrap64 (x5_1 + 1)))) else (some ((⟨#[]⟩ : ByteArray), 11))) = some (r1, r2) := H
     have A4 := aZ_ A40
     clear A40
     by_cases c5 : t175 = true
     ·
      subst c5
      have H1 : ((chancelref1_put.f x4_1 (rd l0 x5_1)).bind fun t177 => (chancelref1_Of.l0 k1 l0 t177 (wrap64 (x5_1 + 1)))) = some (r1, r2) := by rw [if_pos rfl] at H; exact H
      clear H
      have H := H1
      clear H1
      replace H := Option.bind_eq_some_iff.mp H
      obtain ⟨t177, A60, H⟩ := H
      replace H : (chancelref1_Of.l0 k1 l0 t177 (wrap64 (x5_1 + 1))) = some (r1, r2) := H
      have A6 := aZ_ A60
      clear A60
      have H' := aZ_ H
      clear H
      have p174 : 0 ≤ (x5_1 : Int) := of_decide_eq_true asm_
      have q174 : x5_1 < (l0.length : Int) := of_decide_eq_true asm_
      obtain ⟨ad174, e174, hx174_0⟩ := Kd.at_int HR0.out x5_1 p174 q174
      cases e174
      replace hx174_0 := (hbc HB.out hx174_0 :)
      replace p174 := eq_true p174
      replace q174 := eq_true q174
      go_wp2_with (first | ((with_reducible refine gate_callee (f := 148) rfl ?_); refine goesL_ (some 16) rfl rfl Try.func148 (by kernel_rfl) rfl #[.int .i32 (rd l0 x5_1)] rfl gm_ ?_; (with_reducible refine (chancelref1_Is.calls (rd l0 x5_1) true _ A4.out).mono ?_); rintro e w' ⟨rfl, ⟨nd, rfl⟩⟩; refine ⟨_, rfl, ?_⟩; have p176 : 0 ≤ (x5_1 : Int) := of_decide_eq_true asm_; have q176 : x5_1 < (l0.length : Int) := of_decide_eq_true asm_; obtain ⟨ad176, e176, hx176_0⟩ := Kd.at_int HR0.out x5_1 p176 q176; obtain rfl : ad174 = ad176 := (by injection e176); replace hx176_0 := (hbc HB.out hx176_0 :); replace p176 := eq_true p176; replace q176 := eq_true q176; obtain ⟨Ao7, co7, eo7⟩ := Kd.R_slice HO_4.out; subst eo7) | ((with_reducible refine gate_callee (f := 149) rfl ?_); refine goesL_ (some 23) rfl rfl Try.func149 (by kernel_rfl) rfl #[.slice Ao7 x4_1.length co7, .int .i32 (rd l0 x5_1)] rfl gm_ ?_; (with_reducible refine (chancelref1_put.calls (fun k_ => some k_ = (.slice Ao7 x4_1.length co7 : Value).ownBlock) (.slice Ao7 x4_1.length co7) x4_1 (rd l0 x5_1) t177 w _ ?side1 ?side2 A6.out).mono ?_); (case side1 => repeat (first | (with_reducible first | exact HB.out | apply below_alloc | apply pw_below_drewN | apply below_drew1) | exact HB.out)); (case side2 => exact Kd.R_tight rfl HO_4.out); rintro e w8 ⟨v178, rfl, ho0, hb, hkp⟩; refine ⟨_, rfl, ?_⟩; have HO179 := aZ_ (Kd.R_mono (ok' := fun k_ => True) ho0 (fun k_ hk_ => trivial)); replace HB := aZ_ (hb); clear HO_4; (try clear hb); (try clear hkp); (try clear ho0)))
      go_roundg k1
      case measure => have := HK1.out; omega
      case rel => exact ⟨(t177), (wrap64 (x5_1 + 1)), rf_, H', ⟨by have := HK1.out; omega⟩, ⟨kR HO179⟩, ⟨bl HB⟩⟩
     ·
      replace c5 := Bool.eq_false_iff.mpr c5
      subst c5
      have H1 : (some ((⟨#[]⟩ : ByteArray), 11)) = some (r1, r2) := by rw [if_neg (show ¬ (false = true) by decide)] at H; exact H
      clear H
      have H := H1
      clear H1
      simp only [Option.some.injEq, Prod.mk.injEq] at H
      obtain ⟨rfl, rfl⟩ := H
      have p174 : 0 ≤ (x5_1 : Int) := of_decide_eq_true asm_
      have q174 : x5_1 < (l0.length : Int) := of_decide_eq_true asm_
      obtain ⟨ad174, e174, hx174_0⟩ := Kd.at_int HR0.out x5_1 p174 q174
      cases e174
      replace hx174_0 := (hbc HB.out hx174_0 :)
      replace p174 := eq_true p174
      replace q174 := eq_true q174
      go_wp2_with (first | ((with_reducible refine gate_callee (f := 148) rfl ?_); refine goesL_ (some 16) rfl rfl Try.func148 (by kernel_rfl) rfl #[.int .i32 (rd l0 x5_1)] rfl gm_ ?_; (with_reducible refine (chancelref1_Is.calls (rd l0 x5_1) false _ A4.out).mono ?_); rintro e w' ⟨rfl, ⟨nd, rfl⟩⟩; refine ⟨_, rfl, ?_⟩))
      go_ret2
      exact ⟨by first | rfl | (simp [errW_none, errW_some] <;> rfl) | (simp [*, errW_none, errW_some] <;> rfl), bl HB⟩
    ·
     rw [if_neg c3] at H
     exact absurd H (by simp)
   ·
    rw [if_neg c2] at H
    have c2b0 : decide (x5_1 < (l0.length : Int)) = false := decide_eq_false c2
    clear c2
    simp only [Option.some.injEq, Prod.mk.injEq] at H
    obtain ⟨rfl, rfl⟩ := H
    have hcv9 := own_string (P := Try.prog) Try.underlying45 Try.underlying5 Try.underlying9 (Kd.own_of_R HO_4.out)
    go_wp2
    go_ret2
    exact ⟨by first | rfl | (simp [errW_none, errW_some] <;> rfl) | (simp [*, errW_none, errW_some] <;> rfl), bl HB⟩

/-! ### chancellaw1_Of: function 97 -/
def chancellaw1_Of.l0 : Nat → List Int → List Int → List Int → Int → Option (ByteArray)
 | 0, _, _, _, _ => none
 | k + 1, x0, x3, x4, x5 => if x5 < (x0.length : Int) then (if x5 < 40 then (if 0 ≤ x5 then ((chancellaw1_within.f (rd x0 x5) (x3.length : Int)).bind fun t184 => (if 0 ≤ t184 then (if t184 < (x3.length : Int) then (if x4.length < 35184372088832 then (chancellaw1_Of.l0 k x0 x3 (x4 ++ [rd x3 t184]) (wrap64 (x5 + 1))) else (none)) else (none)) else (none))) else (none)) else ((chancelref1_Of.f k x4).bind fun bt189 => (some bt189.1))) else ((chancelref1_Of.f k x4).bind fun bt191 => (some bt191.1))
def chancellaw1_Of.f (k : Nat) (l0 : List Int) : Option (ByteArray) := chancellaw1_Of.l0 k l0 (([97, 98, 42, 34, 92, 10, 9, 1, 31, 127, 128, 233, 2047, 2048, 8364, 55295, 57344, 65533, 65535, 65536, 128512, 1114111] : List Int)) ([] : List Int) 0
theorem chancellaw1_Of.mono_l : ∀ k, (∀ y0 y1 y2 y3, LeO (chancellaw1_Of.l0 k y0 y1 y2 y3) (chancellaw1_Of.l0 (k + 1) y0 y1 y2 y3))
 | 0 => fun _ _ _ _ r h => by simp [chancellaw1_Of.l0] at h
 | k + 1 => by
  have ih0 := chancellaw1_Of.mono_l k
  ·
   intro y0 y1 y2 y3
   unfold chancellaw1_Of.l0
   repeat' first
   | (with_reducible exact ih0 _ _ _ _)
   | (with_reducible exact chancelref1_Of.mono _ _)
   | (with_reducible exact LeO.refl _)
   | (with_reducible exact LeO.none _)
   | (with_reducible refine LeO.ite ?_ ?_)
   | (with_reducible refine LeO.bind ?_ (fun _ => ?_))
   | exact ih0 _ _ _ _
   | exact chancelref1_Of.mono _ _
   | exact LeO.none _
   | refine LeO.ite ?_ ?_
   | refine LeO.bind ?_ (fun _ => ?_)
theorem chancellaw1_Of.mono : ∀ a0 k, LeO (chancellaw1_Of.f k a0) (chancellaw1_Of.f (k + 1) a0) := by
 intro a0 k
 have ih0 := chancellaw1_Of.mono_l k
 unfold chancellaw1_Of.f
 repeat' first
   | (with_reducible exact ih0 _ _ _ _)
   | (with_reducible exact chancelref1_Of.mono _ _)
   | (with_reducible exact LeO.refl _)
   | (with_reducible exact LeO.none _)
   | (with_reducible refine LeO.ite ?_ ?_)
   | (with_reducible refine LeO.bind ?_ (fun _ => ?_))
   | exact ih0 _ _ _ _
   | exact chancelref1_Of.mono _ _
   | exact LeO.none _
   | refine LeO.ite ?_ ?_
   | refine LeO.bind ?_ (fun _ => ?_)
set_option maxHeartbeats 8000000 in
set_option maxRecDepth 100000 in
theorem chancellaw1_Of.calls (k : Nat) (A0 : Option Addr) (c0 : Nat) (l0 : List Int) (r : ByteArray) (w : World) (hr0 : Kd.C (Kd.int .i64) w A0 l0.length l0) (hc0 : l0.length ≤ c0) (h : chancellaw1_Of.f k l0 = some r) :
  Calls Try.prog 97 #[.slice A0 l0.length c0] w fun e w' => e = .returned (.string r) ∧ Below w.heap.size w w' := by
 have HR0 := aZ_ hr0
 have HC0 := aZ_ hc0
 clear hr0 hc0
 have HB := aZ_ (Below.refl w.heap.size w)
 have H : (chancellaw1_Of.l0 k l0 (([97, 98, 42, 34, 92, 10, 9, 1, 31, 127, 128, 233, 2047, 2048, 8364, 55295, 57344, 65533, 65535, 65536, 128512, 1114111] : List Int)) ([] : List Int) 0) = some r := h
 clear h
 obtain ⟨y180, hy180⟩ : ∃ y_ : List Int, y_ = (([97, 98, 42, 34, 92, 10, 9, 1, 31, 127, 128, 233, 2047, 2048, 8364, 55295, 57344, 65533, 65535, 65536, 128512, 1114111] : List Int)) := ⟨_, rfl⟩
 replace H : (chancellaw1_Of.l0 k l0 y180 ([] : List Int) 0) = some r := by first | (rw [hy180]; with_reducible exact H) | (have H2_ := (Option.bind_some _ _).symm.trans H; rw [hy180]; with_reducible exact H2_) | (have H2_ := (Option.bind_some _ _).symm.trans H; with_reducible exact H2_) | with_reducible exact H | (rw [hy180]; exact H) | exact H
 have Ny180 := aZ_ hy180
 clear hy180
 have H' := aZ_ H
 clear H
 go_enter Try.func97, Try.ntmps97
 go_wp2_with (first | ((with_reducible refine gate_dst (N := 8) rfl ?_); refine Kd.R_lit (Kd.int .i32) _ 21 ?hg (N := 8) ?hd (xs := ([97, 98, 42, 34, 92, 10, 9, 1, 31, 127, 128, 233, 2047, 2048, 8364, 55295, 57344, 65533, 65535, 65536, 128512, 1114111] : List Int)) (inner := [.int .i32 97, .int .i32 98, .int .i32 42, .int .i32 34, .int .i32 92, .int .i32 10, .int .i32 9, .int .i32 1, .int .i32 31, .int .i32 127, .int .i32 128, .int .i32 233, .int .i32 2047, .int .i32 2048, .int .i32 8364, .int .i32 55295, .int .i32 57344, .int .i32 65533, .int .i32 65535, .int .i32 65536, .int .i32 128512, .int .i32 1114111]) (ok := fun _ => True) (okp := fun _ => True) ?hr ?hp (fun _ hk => hk) trivial (Below.refl _ _) (Nat.le_refl _) (by simp) ?_; (case hd => rfl); (case hg => rfl); (case hr => first | (go_simp; done) | (go_simp; rfl)); (case hp => exact (Reps.one (show Kd.M (Kd.int .i32) _ _ _ 97 [.int .i32 97] from rfl) (Reps.one (show Kd.M (Kd.int .i32) _ _ _ 98 [.int .i32 98] from rfl) (Reps.one (show Kd.M (Kd.int .i32) _ _ _ 42 [.int .i32 42] from rfl) (Reps.one (show Kd.M (Kd.int .i32) _ _ _ 34 [.int .i32 34] from rfl) (Reps.one (show Kd.M (Kd.int .i32) _ _ _ 92 [.int .i32 92] from rfl) (Reps.one (show Kd.M (Kd.int .i32) _ _ _ 10 [.int .i32 10] from rfl) (Reps.one (show Kd.M (Kd.int .i32) _ _ _ 9 [.int .i32 9] from rfl) (Reps.one (show Kd.M (Kd.int .i32) _ _ _ 1 [.int .i32 1] from rfl) (Reps.one (show Kd.M (Kd.int .i32) _ _ _ 31 [.int .i32 31] from rfl) (Reps.one (show Kd.M (Kd.int .i32) _ _ _ 127 [.int .i32 127] from rfl) (Reps.one (show Kd.M (Kd.int .i32) _ _ _ 128 [.int .i32 128] from rfl) (Reps.one (show Kd.M (Kd.int .i32) _ _ _ 233 [.int .i32 233] from rfl) (Reps.one (show Kd.M (Kd.int .i32) _ _ _ 2047 [.int .i32 2047] from rfl) (Reps.one (show Kd.M (Kd.int .i32) _ _ _ 2048 [.int .i32 2048] from rfl) (Reps.one (show Kd.M (Kd.int .i32) _ _ _ 8364 [.int .i32 8364] from rfl) (Reps.one (show Kd.M (Kd.int .i32) _ _ _ 55295 [.int .i32 55295] from rfl) (Reps.one (show Kd.M (Kd.int .i32) _ _ _ 57344 [.int .i32 57344] from rfl) (Reps.one (show Kd.M (Kd.int .i32) _ _ _ 65533 [.int .i32 65533] from rfl) (Reps.one (show Kd.M (Kd.int .i32) _ _ _ 65535 [.int .i32 65535] from rfl) (Reps.one (show Kd.M (Kd.int .i32) _ _ _ 65536 [.int .i32 65536] from rfl) (Reps.one (show Kd.M (Kd.int .i32) _ _ _ 128512 [.int .i32 128512] from rfl) (Reps.one (show Kd.M (Kd.int .i32) _ _ _ 1114111 [.int .i32 1114111] from rfl) (Reps.none _ _)))))))))))))))))))))))); intro v181 w2 ho3 hb hg_ hnew_; clear hg_ hnew_; (first | rw [← Ny180.out] at ho3 | (simp only [Int.reduceToNat] at ho3; rw [← Ny180.out] at ho3)); have HO182 := aZ_ (Kd.R_lower ho3 (below_size (bl HB))); replace HB := aZ_ (below_step (bl HB) hb); clear hb ho3))
 go_loopg [4, 5] k (fun kq v4 v5 w' => ∃ (x4_1 : List Int) (x5_1 : Int), v5 = .int .i64 x5_1 ∧ Aside0 (chancellaw1_Of.l0 kq l0 y180 x4_1 x5_1 = some r) ∧ Aside0 (kq ≤ k) ∧ Aside0 (Kd.R (Kd.int .i32) 21 w' w.heap.size (fun k_ => some k_ ≠ (v4 : Value).ownBlock) v181 y180) ∧ Aside0 (Kd.R (Kd.int .i32) 21 w' w.heap.size (fun k_ => some k_ ≠ (v181 : Value).ownBlock) v4 x4_1) ∧ Aside0 (Below w.heap.size w w'))
 case atStart => exact ⟨(([] : List Int)), (0), rf_, H', ⟨Nat.le_refl _⟩, ⟨by (with_reducible repeat (first | apply Kd.R_alloc | apply Kd.R_drewN | apply Kd.R_drew)); exact Kd.R_mono HO182.out (fun _ hk => (by simp [Value.ownBlock]))⟩, ⟨by first | exact Kd.R_nil _ _ _ _ _ | exact Kd.N_nil _ _ _ _ _ | exact Kd.V_nil _ _ _ _ _ | exact Kd.Q_nil _ _ _ _ _ | exact Kd.S_nil _ _ _ _ _⟩, ⟨bl HB⟩⟩
 case round =>
  clear H'
  try clear p2
  obtain ⟨x4_1, x5_1, rfl, HA, HK1, HO_3, HO_4, HB⟩ := hrel
  cases gk with
  | zero => exact absurd HA.out (by simp [chancellaw1_Of.l0])
  | succ k1 =>
   have H := HA.out
   clear HA
   simp only [chancellaw1_Of.l0] at H
   by_cases c4 : x5_1 < (l0.length : Int)
   ·
    rw [if_pos c4] at H
    have c4b0 : decide (x5_1 < (l0.length : Int)) = true := decide_eq_true c4
    clear c4
    by_cases c5 : x5_1 < 40
    ·
     rw [if_pos c5] at H
     have c5b0 : decide (x5_1 < 40) = true := decide_eq_true c5
     clear c5
     by_cases c6 : 0 ≤ x5_1
     ·
      rw [if_pos c6] at H
      have c6b0 : decide (0 ≤ x5_1) = true := decide_eq_true c6
      clear c6
      replace H := Option.bind_eq_some_iff.mp H
      obtain ⟨t184, A70, H⟩ := H
      replace H : (if 0 ≤ t184 then (if t184 < (y180.length : Int) then (if x4_1.length < 35184372088832 then (chancellaw1_Of.l0 k1 l0 y180 (x4_1 ++ [rd y180 t184]) (wrap64 (x5_1 + 1))) else (none)) else (none)) else (none)) = some r := H
      have A7 := aZ_ A70
      clear A70
      by_cases c8 : 0 ≤ t184
      ·
       rw [if_pos c8] at H
       have c8b0 : decide (0 ≤ t184) = true := decide_eq_true c8
       clear c8
       by_cases c9 : t184 < (y180.length : Int)
       ·
        rw [if_pos c9] at H
        have c9b0 : decide (t184 < (y180.length : Int)) = true := decide_eq_true c9
        clear c9
        by_cases c10 : x4_1.length < 35184372088832
        ·
         rw [if_pos c10] at H
         have LMc10 := aZ_ c10
         clear c10
         obtain ⟨y186, hy186⟩ : ∃ y_ : List Int, y_ = (x4_1 ++ [rd y180 t184]) := ⟨_, rfl⟩
         replace H : (chancellaw1_Of.l0 k1 l0 y180 y186 (wrap64 (x5_1 + 1))) = some r := by first | (rw [hy186]; with_reducible exact H) | (have H2_ := (Option.bind_some _ _).symm.trans H; rw [hy186]; with_reducible exact H2_) | (have H2_ := (Option.bind_some _ _).symm.trans H; with_reducible exact H2_) | with_reducible exact H | (rw [hy186]; exact H) | exact H
         have Ny186 := aZ_ hy186
         clear hy186
         have H' := aZ_ H
         clear H
         have p183 : 0 ≤ (x5_1 : Int) := of_decide_eq_true asm_
         have q183 : x5_1 < (l0.length : Int) := of_decide_eq_true asm_
         obtain ⟨ad183, e183, hx183_0⟩ := Kd.at_int HR0.out x5_1 p183 q183
         cases e183
         replace hx183_0 := (hbc HB.out hx183_0 :)
         replace p183 := eq_true p183
         replace q183 := eq_true q183
         obtain ⟨Ao11, co11, eo11⟩ := Kd.R_slice HO_3.out
         subst eo11
         go_wp2_with (first | ((with_reducible refine gate_callee (f := 126) rfl ?_); refine goesL_ (some 27) rfl rfl Try.func126 (by kernel_rfl) rfl #[.int .i64 (rd l0 x5_1), .int .i64 (y180.length : Int)] rfl gm_ ?_; (with_reducible refine (chancellaw1_within.calls (rd l0 x5_1) (y180.length : Int) t184 _ A7.out).mono ?_); rintro e w' ⟨rfl, ⟨nd, rfl⟩⟩; refine ⟨_, rfl, ?_⟩; have p185 : 0 ≤ (t184 : Int) := of_decide_eq_true asm_; have q185 : t184 < (y180.length : Int) := of_decide_eq_true asm_; obtain ⟨ad185, e185, hx185_0⟩ := Kd.at_int (Kd.R_reads' HO_3.out).2.2 t184 p185 q185; cases e185; replace p185 := eq_true p185; replace q185 := eq_true q185) | ((with_reducible refine gate_builtin (b := .append) (xs := #[.tmp 19, .tmp 30]) rfl ?_); at_builtin; refine Kd.R_append (Kd.int .i32) (w0 := w) w.heap.size rfl (.tmp 19) (.tmp 30) 177 21 (.int .i32 0) 4 rfl Try.underlying177 info21 rfl (by decide) (by omega) u4 x4_1 (rd y180 t184) [.int .i32 (rd y180 t184)] (fun k_ => some k_ ≠ (.slice (some ad185) y180.length co11 : Value).ownBlock) (fun _ => False) rfl rfl ?aP (fun _ hk => hk.elim) ?aF ?aO ?aB ?aS ?aL ?_; (case aP => exact rfl); (case aB => exact (bl HB)); (case aF => exact (fun k_ hk => Kd.fresh' (Kd.R_lt (kR HO_3)) k_ hk)); (case aO => exact (kR HO_4)); (case aS => exact (below_size (bl HB))); (case aL => have := LMc10.out; omega); intro v187 w12 ho hb hg hat; rw [← Ny186.out] at ho; replace HO_3 := aZ_ (Kd.R_after (ok := (fun _ => True)) (by (with_reducible repeat (first | apply Kd.R_alloc | apply Kd.R_drewN | apply Kd.R_drew)); exact Kd.R_mono HO_3.out (fun _ hk => ⟨trivial, hk⟩)) hg hat); replace HB := aZ_ (hb); have HO188 := aZ_ (ho); clear HO_4; clear ho hb hg hat))
         go_roundg k1
         case measure => have := HK1.out; omega
         case rel => exact ⟨(y186), (wrap64 (x5_1 + 1)), rf_, H', ⟨by have := HK1.out; omega⟩, ⟨by (with_reducible repeat (first | apply Kd.R_alloc | apply Kd.R_drewN | apply Kd.R_drew)); exact Kd.R_mono HO_3.out (fun _ hk => hk.2)⟩, ⟨kR HO188⟩, ⟨bl HB⟩⟩
        ·
         rw [if_neg c10] at H
         exact absurd H (by simp)
       ·
        rw [if_neg c9] at H
        exact absurd H (by simp)
      ·
       rw [if_neg c8] at H
       exact absurd H (by simp)
     ·
      rw [if_neg c6] at H
      exact absurd H (by simp)
    ·
     rw [if_neg c5] at H
     have c5b0 : decide (x5_1 < 40) = false := decide_eq_false c5
     clear c5
     replace H := Option.bind_eq_some_iff.mp H
     obtain ⟨⟨t189, t190⟩, A130, H⟩ := H
     replace H : (some t189) = some r := H
     have A13 := aZ_ A130
     clear A130
     obtain rfl := Option.some.inj H
     obtain ⟨Ao14, co14, eo14⟩ := Kd.R_slice HO_4.out
     subst eo14
     go_wp2_with (first | ((with_reducible refine gate_callee (f := 127) rfl ?_); refine goesL_ (some 34) rfl rfl Try.func127 (by kernel_rfl) rfl #[.slice Ao14 x4_1.length co14] rfl gm_ ?_; (with_reducible refine (chancelref1_Of.calls k1 _ _ x4_1 t189 t190 _ ?side1 ?side2 A13.out).mono ?_); (case side1 => repeat (first | exact (Kd.R_reads' HO_4.out).2.2 | (with_reducible refine Kd.C_alloc ?_ _) | (with_reducible refine Kd.C_drewN ?_ _) | (with_reducible refine Kd.C_drew ?_))); (case side2 => exact (Kd.R_reads' HO_4.out).2.1); rintro e w15 ⟨rfl, hb⟩; refine ⟨_, rfl, ?_⟩; replace HO_3 := aZ_ (Kd.R_below (kR HO_3) hb); replace HO_4 := aZ_ (Kd.R_below (kR HO_4) hb); replace HB := aZ_ (below_step (bl HB) hb); (try clear hb); (try clear hb2); (try clear hk); (try clear hi)))
     go_ret
     exact ⟨by first | rfl | (simp [errW_none, errW_some] <;> rfl) | (simp [*, errW_none, errW_some] <;> rfl), bl HB⟩
   ·
    rw [if_neg c4] at H
    have c4b0 : decide (x5_1 < (l0.length : Int)) = false := decide_eq_false c4
    clear c4
    replace H := Option.bind_eq_some_iff.mp H
    obtain ⟨⟨t191, t192⟩, A160, H⟩ := H
    replace H : (some t191) = some r := H
    have A16 := aZ_ A160
    clear A160
    obtain rfl := Option.some.inj H
    obtain ⟨Ao17, co17, eo17⟩ := Kd.R_slice HO_4.out
    subst eo17
    go_wp2_with (first | ((with_reducible refine gate_callee (f := 127) rfl ?_); refine goesL_ (some 34) rfl rfl Try.func127 (by kernel_rfl) rfl #[.slice Ao17 x4_1.length co17] rfl gm_ ?_; (with_reducible refine (chancelref1_Of.calls k1 _ _ x4_1 t191 t192 _ ?side1 ?side2 A16.out).mono ?_); (case side1 => repeat (first | exact (Kd.R_reads' HO_4.out).2.2 | (with_reducible refine Kd.C_alloc ?_ _) | (with_reducible refine Kd.C_drewN ?_ _) | (with_reducible refine Kd.C_drew ?_))); (case side2 => exact (Kd.R_reads' HO_4.out).2.1); rintro e w18 ⟨rfl, hb⟩; refine ⟨_, rfl, ?_⟩; replace HO_3 := aZ_ (Kd.R_below (kR HO_3) hb); replace HO_4 := aZ_ (Kd.R_below (kR HO_4) hb); replace HB := aZ_ (below_step (bl HB) hb); (try clear hb); (try clear hb2); (try clear hk); (try clear hi)))
    go_ret
    exact ⟨by first | rfl | (simp [errW_none, errW_some] <;> rfl) | (simp [*, errW_none, errW_some] <;> rfl), bl HB⟩

/-! ### chancellaw3_id: function 82 -/
def chancellaw3_id.f (k : Nat) (l0 : List Int) : Option (ByteArray) := if (l0.length : Int) > 30 then (if 30 ≤ (l0.length : Int) then ((chancellaw1_Of.f k (l0.take 30)).bind fun t194 => (some t194)) else (none)) else ((chancellaw1_Of.f k l0).bind fun t195 => (some t195))
theorem chancellaw3_id.mono : ∀ a0 k, LeO (chancellaw3_id.f k a0) (chancellaw3_id.f (k + 1) a0) := by
 intro a0 k
 unfold chancellaw3_id.f
 repeat' first
   | (with_reducible exact chancellaw1_Of.mono _ _)
   | (with_reducible exact LeO.refl _)
   | (with_reducible exact LeO.none _)
   | (with_reducible refine LeO.ite ?_ ?_)
   | (with_reducible refine LeO.bind ?_ (fun _ => ?_))
   | exact chancellaw1_Of.mono _ _
   | exact LeO.none _
   | refine LeO.ite ?_ ?_
   | refine LeO.bind ?_ (fun _ => ?_)
set_option maxHeartbeats 8000000 in
set_option maxRecDepth 100000 in
theorem chancellaw3_id.calls (k : Nat) (A0 : Option Addr) (c0 : Nat) (l0 : List Int) (r : ByteArray) (w : World) (hr0 : Kd.C (Kd.int .i64) w A0 l0.length l0) (hc0 : l0.length ≤ c0) (h : chancellaw3_id.f k l0 = some r) :
  Calls Try.prog 82 #[.slice A0 l0.length c0] w fun e w' => e = .returned (.string r) ∧ Below w.heap.size w w' := by
 have HR0 := aZ_ hr0
 have HC0 := aZ_ hc0
 clear hr0 hc0
 have HB := aZ_ (Below.refl w.heap.size w)
 have H : (if (l0.length : Int) > 30 then (if 30 ≤ (l0.length : Int) then ((chancellaw1_Of.f k (l0.take 30)).bind fun t194 => (some t194)) else (none)) else ((chancellaw1_Of.f k l0).bind fun t195 => (some t195))) = some r := h
 clear h
 by_cases c2 : (l0.length : Int) > 30
 ·
  rw [if_pos c2] at H
  have c2b0 : decide (30 < (l0.length : Int)) = true := decide_eq_true c2
  have c2b1 : decide (30 < l0.length) = true := decide_eq_true (by omega)
  clear c2
  by_cases c3 : 30 ≤ (l0.length : Int)
  ·
   rw [if_pos c3] at H
   have c3b0 := eq_true c3
   have c3b1 : decide (30 ≤ (l0.length : Int)) = true := decide_eq_true c3
   clear c3
   replace H := Option.bind_eq_some_iff.mp H
   obtain ⟨t194, A40, H⟩ := H
   replace H : (some t194) = some r := H
   have A4 := aZ_ A40
   clear A40
   obtain rfl := Option.some.inj H
   obtain ⟨i05, hi05, _, hsz5, _⟩ := info_parts info3
   obtain ⟨hcut5, hA5, hC5⟩ := print_take_of (P := Try.prog) (Value.int .i64) 0 23 3 .i64 Try.underlying23 hi05 hsz5 A0 c0 l0 30 (by omega) (of_decide_eq_true asm_) HC0.out
   have HR193 := aZ_ (Kd.C_of_reads (h1 := fun _ => rfl) (hA5 _ (Kd.reads_of_C HR0.out)))
   have HC193 := aZ_ hC5
   clear hA5 hC5 hi05 hsz5
   go_enter Try.func82, Try.ntmps82
   go_wp2_with (first | ((with_reducible refine gate_callee (f := 97) rfl ?_); refine goesL_ (some 9) rfl rfl Try.func97 (by kernel_rfl) rfl #[.slice A0 (l0.take 30).length c0] rfl (by (try simp only [List.map_toArray, List.map_cons, List.map_nil]); first | done | (rw [show (l0.take 30).length = 30 from (by rw [List.length_take]; have h_ : (30 : Int) ≤ (l0.length : Int) := of_decide_eq_true asm_; omega)] <;> rfl) | rfl | (simp only [List.length_drop, List.length_take]; rfl)) ?_; (with_reducible refine (chancellaw1_Of.calls k _ _ (l0.take 30) t194 _ ?side1 ?side2 A4.out).mono ?_); (case side1 => repeat (first | exact HR193.out | (with_reducible refine Kd.C_alloc ?_ _) | (with_reducible refine Kd.C_drewN ?_ _) | (with_reducible refine Kd.C_drew ?_))); (case side2 => exact HC193.out); rintro e w6 ⟨rfl, hb⟩; refine ⟨_, rfl, ?_⟩; replace HB := aZ_ (below_step (bl HB) hb); (try clear hb); (try clear hb2); (try clear hk); (try clear hi)))
   go_ret
   exact ⟨by first | rfl | (simp [errW_none, errW_some] <;> rfl) | (simp [*, errW_none, errW_some] <;> rfl), bl HB⟩
  ·
   rw [if_neg c3] at H
   exact absurd H (by simp)
 ·
  rw [if_neg c2] at H
  have c2b0 : decide (30 < (l0.length : Int)) = false := decide_eq_false c2
  have c2b1 : decide (30 < l0.length) = false := decide_eq_false (by omega)
  clear c2
  replace H := Option.bind_eq_some_iff.mp H
  obtain ⟨t195, A70, H⟩ := H
  replace H : (some t195) = some r := H
  have A7 := aZ_ A70
  clear A70
  obtain rfl := Option.some.inj H
  go_enter Try.func82, Try.ntmps82
  go_wp2_with (first | ((with_reducible refine gate_callee (f := 97) rfl ?_); refine goesL_ (some 9) rfl rfl Try.func97 (by kernel_rfl) rfl #[.slice A0 l0.length c0] rfl gm_ ?_; (with_reducible refine (chancellaw1_Of.calls k _ _ l0 t195 _ ?side1 ?side2 A7.out).mono ?_); (case side1 => repeat (first | exact HR0.out | (with_reducible refine Kd.C_alloc ?_ _) | (with_reducible refine Kd.C_drewN ?_ _) | (with_reducible refine Kd.C_drew ?_))); (case side2 => exact HC0.out); rintro e w8 ⟨rfl, hb⟩; refine ⟨_, rfl, ?_⟩; replace HB := aZ_ (below_step (bl HB) hb); (try clear hb); (try clear hb2); (try clear hk); (try clear hi)))
  go_ret
  exact ⟨by first | rfl | (simp [errW_none, errW_some] <;> rfl) | (simp [*, errW_none, errW_some] <;> rfl), bl HB⟩

end Go.Proofs.Ytelibndkkokadaa.GB
namespace Go.Proofs.Ytelibndkkokadaa.GB
open Go.RowKit Go.Proofs.YtelibndkkokadaaW.PrintWords Go.Proofs.YtelibndkkokadaaW.PrintLast Go.Proofs.Ytelibndkkokadaa.HandV Go.Proofs.YtelibndkkokadaaW.PrintMore
attribute [local go_sem] max2_int min2_int max_two min_two max_three min_three max_four min_four   -- for this text's walks alone
set_option linter.unusedVariables false
set_option linter.unusedSimpArgs false

/-! ### chancellaw3_Uid: function 83 -/
def chancellaw3_Uid.f (k : Nat) (a0_0 : Int) (a0_1 : Int) (l0_2 : List Int) (l0_3 : List (S51)) : Option (ByteArray × ByteArray) := if (Int.tmod a0_1 5) < 0 then ((some (([(⟨#[85, 115, 101, 114]⟩ : ByteArray), (⟨#[71, 114, 111, 117, 112]⟩ : ByteArray), (⟨#[68, 111, 99]⟩ : ByteArray), (⟨#[65, 99, 116, 105, 111, 110]⟩ : ByteArray), (⟨#[95, 120, 57]⟩ : ByteArray)] : List ByteArray) : List ByteArray)).bind fun y198 => (if 0 ≤ (wrap64 (-(Int.tmod a0_1 5))) then (if (wrap64 (-(Int.tmod a0_1 5))) < (y198.length : Int) then ((chancellaw3_id.f k l0_2).bind fun t202 => (some (rdOf ByteArray.empty y198 (wrap64 (-(Int.tmod a0_1 5))), t202))) else (none)) else (none))) else ((some (([(⟨#[85, 115, 101, 114]⟩ : ByteArray), (⟨#[71, 114, 111, 117, 112]⟩ : ByteArray), (⟨#[68, 111, 99]⟩ : ByteArray), (⟨#[65, 99, 116, 105, 111, 110]⟩ : ByteArray), (⟨#[95, 120, 57]⟩ : ByteArray)] : List ByteArray) : List ByteArray)).bind fun y203 => (if 0 ≤ (Int.tmod a0_1 5) then (if (Int.tmod a0_1 5) < (y203.length : Int) then ((chancellaw3_id.f k l0_2).bind fun t207 => (some (rdOf ByteArray.empty y203 (Int.tmod a0_1 5), t207))) else (none)) else (none)))
theorem chancellaw3_Uid.mono : ∀ a0 a1 a2 a3 k, LeO (chancellaw3_Uid.f k a0 a1 a2 a3) (chancellaw3_Uid.f (k + 1) a0 a1 a2 a3) := by
 intro a0 a1 a2 a3 k
 unfold chancellaw3_Uid.f
 repeat' first
   | (with_reducible exact chancellaw3_id.mono _ _)
   | (with_reducible exact LeO.refl _)
   | (with_reducible exact LeO.none _)
   | (with_reducible refine LeO.ite ?_ ?_)
   | (with_reducible refine LeO.bind ?_ (fun _ => ?_))
   | exact chancellaw3_id.mono _ _
   | exact LeO.none _
   | refine LeO.ite ?_ ?_
   | refine LeO.bind ?_ (fun _ => ?_)
def chancellaw3_Uid.T4 : Bool × List (List Nat × List Nat) := (true, [([], []), ([], []), ([0, 1], [0, 1]), ([2], [2]), ([], []), ([4], [4]), ([5], [5]), ([3, 6], [3, 6]), ([7, 6, 0, 1, 2, 3, 4, 5, 6, 7], [7])])
def chancellaw3_Uid.B4 : List Nat := [0, 0, 3, 7, 0, 16, 48, 127, 255]
theorem chancellaw3_Uid.tab4 : rtab .any (opsOf Try.f83 4) = chancellaw3_Uid.T4 := by kernel_rfl
theorem chancellaw3_Uid.bits4 : waitsOk chancellaw3_Uid.T4.2 chancellaw3_Uid.B4 = true := by kernel_rfl
set_option maxHeartbeats 8000000 in
set_option maxRecDepth 100000 in
theorem chancellaw3_Uid.calls (k : Nat) (a0_0 : Int) (a0_1 : Int) (A0_2 : Option Addr) (c0_2 : Nat) (l0_2 : List Int) (A0_3 : Option Addr) (c0_3 : Nat) (l0_3 : List (S51)) (r1 : ByteArray) (r2 : ByteArray) (w : World) (hr0_2 : Kd.C (Kd.int .i64) w A0_2 l0_2.length l0_2) (hc0_2 : l0_2.length ≤ c0_2) (hr0_3 : Kd.C k51 w A0_3 l0_3.length l0_3) (hc0_3 : l0_3.length ≤ c0_3) (h : chancellaw3_Uid.f k a0_0 a0_1 l0_2 l0_3 = some (r1, r2)) :
  Calls Try.prog 83 #[.agg #[.int .i64 a0_0, .int .i64 a0_1, .slice A0_2 l0_2.length c0_2, .slice A0_3 l0_3.length c0_3]] w fun e w' => e = .returned (.agg #[.string r1, .string r2]) ∧ Below w.heap.size w w' := by
 have hu51 := Try.underlying51
 have hu28 := Try.underlying28
 have HR0_2 := aZ_ hr0_2
 have HC0_2 := aZ_ hc0_2
 clear hr0_2 hc0_2
 have HR0_3 := aZ_ hr0_3
 have HC0_3 := aZ_ hc0_3
 clear hr0_3 hc0_3
 have HB := aZ_ (Below.refl w.heap.size w)
 have H : (if (Int.tmod a0_1 5) < 0 then ((some (([(⟨#[85, 115, 101, 114]⟩ : ByteArray), (⟨#[71, 114, 111, 117, 112]⟩ : ByteArray), (⟨#[68, 111, 99]⟩ : ByteArray), (⟨#[65, 99, 116, 105, 111, 110]⟩ : ByteArray), (⟨#[95, 120, 57]⟩ : ByteArray)] : List ByteArray) : List ByteArray)).bind fun y198 => (if 0 ≤ (wrap64 (-(Int.tmod a0_1 5))) then (if (wrap64 (-(Int.tmod a0_1 5))) < (y198.length : Int) then ((chancellaw3_id.f k l0_2).bind fun t202 => (some (rdOf ByteArray.empty y198 (wrap64 (-(Int.tmod a0_1 5))), t202))) else (none)) else (none))) else ((some (([(⟨#[85, 115, 101, 114]⟩ : ByteArray), (⟨#[71, 114, 111, 117, 112]⟩ : ByteArray), (⟨#[68, 111, 99]⟩ : ByteArray), (⟨#[65, 99, 116, 105, 111, 110]⟩ : ByteArray), (⟨#[95, 120, 57]⟩ : ByteArray)] : List ByteArray) : List ByteArray)).bind fun y203 => (if 0 ≤ (Int.tmod a0_1 5) then (if (Int.tmod a0_1 5) < (y203.length : Int) then ((chancellaw3_id.f k l0_2).bind fun t207 => (some (rdOf ByteArray.empty y203 (Int.tmod a0_1 5), t207))) else (none)) else (none)))) = some (r1, r2) := h
 clear h
 by_cases c2 : (Int.tmod a0_1 5) < 0
 ·
  rw [if_pos c2] at H
  have c2b0 : decide ((Int.tmod a0_1 5) < 0) = true := decide_eq_true c2
  clear c2
  obtain ⟨y198, hy198⟩ : ∃ y_ : List ByteArray, y_ = (([(⟨#[85, 115, 101, 114]⟩ : ByteArray), (⟨#[71, 114, 111, 117, 112]⟩ : ByteArray), (⟨#[68, 111, 99]⟩ : ByteArray), (⟨#[65, 99, 116, 105, 111, 110]⟩ : ByteArray), (⟨#[95, 120, 57]⟩ : ByteArray)] : List ByteArray)) := ⟨_, rfl⟩
  replace H : (if 0 ≤ (wrap64 (-(Int.tmod a0_1 5))) then (if (wrap64 (-(Int.tmod a0_1 5))) < (y198.length : Int) then ((chancellaw3_id.f k l0_2).bind fun t202 => (some (rdOf ByteArray.empty y198 (wrap64 (-(Int.tmod a0_1 5))), t202))) else (none)) else (none)) = some (r1, r2) := by first | (rw [hy198]; with_reducible exact H) | (have H2_ := (Option.bind_some _ _).symm.trans H; rw [hy198]; with_reducible exact H2_) | (have H2_ := (Option.bind_some _ _).symm.trans H; with_reducible exact H2_) | with_reducible exact H | (rw [hy198]; exact H) | exact H
  have Ny198 := aZ_ hy198
  clear hy198
  obtain ⟨ji3, hji3⟩ : ∃ j_ : Int, (wrap64 (-(Int.tmod a0_1 5))) = j_ := ⟨_, rfl⟩
  replace H : (if 0 ≤ (ji3) then (if (ji3) < (y198.length : Int) then ((chancellaw3_id.f k l0_2).bind fun t202 => (some (rdOf ByteArray.empty y198 (ji3), t202))) else (none)) else (none)) = some (r1, r2) := by first | (rw [hji3] at H; exact H) | (simp only [hji3] at H ⊢; exact H)
  have hji3w : (IntKind.i64.wrap (-(Int.tmod a0_1 5))) = ji3 := (i64_w _).trans hji3
  by_cases c4 : 0 ≤ (ji3)
  ·
   rw [if_pos c4] at H
   have c4b0 : decide (0 ≤ (ji3)) = true := decide_eq_true c4
   clear c4
   by_cases c5 : (ji3) < (y198.length : Int)
   ·
    rw [if_pos c5] at H
    have c5b0 : decide ((ji3) < (y198.length : Int)) = true := decide_eq_true c5
    clear c5
    replace H := Option.bind_eq_some_iff.mp H
    obtain ⟨t202, A60, H⟩ := H
    replace H : (some (rdOf ByteArray.empty y198 (ji3), t202)) = some (r1, r2) := H
    have A6 := aZ_ A60
    clear A60
    simp only [Option.some.injEq, Prod.mk.injEq] at H
    obtain ⟨rfl, rfl⟩ := H
    go_enter Try.func83, Try.ntmps83
    try go_wp2_with (first | ((with_reducible refine gate_dst (N := 1) rfl ?_); refine bxE 1 #[.int .i64 a0_0, .int .i64 a0_1, .slice A0_2 l0_2.length c0_2, .slice A0_3 l0_3.length c0_3] 51 ?_; intro gb196 hg w7 hbox hb; have BK196 := aZ_ (hbox); have GW196 := aZ_ ((by rw [hg]; exact (below_size (bl HB)) : w.heap.size ≤ gb196)); have GE196 := aZ_ ((by rw [hg]; exact (below_size (bl HB)) : w.heap.size ≤ gb196)); replace HB := aZ_ (below_step (bl HB) hb); clear hb hbox hg) | ((with_reducible refine gate_dst (N := 2) rfl ?_); refine bxE 2 #[.string (⟨#[]⟩ : ByteArray), .string (⟨#[]⟩ : ByteArray)] 28 ?_; intro gb197 hg w8 hbox hb; have BK197 := aZ_ (hbox); have GW197 := aZ_ ((by rw [hg]; exact (below_size (bl1 HB GE196)) : w.heap.size ≤ gb197)); have GE197 := aZ_ ((by rw [hg]; exact (below_size (bl1 HB GE196)) : w.heap.size ≤ gb197)); replace HB := aZ_ (below_step (bl1 HB GE196) hb); have NB196_197 := aZ_ ((by rw [hg]; exact Nat.ne_of_lt (blk_lt (g := gb196) (o := .cells #[.int .i64 a0_0, .int .i64 a0_1, .slice A0_2 l0_2.length c0_2, .slice A0_3 l0_3.length c0_3] 51 (0, 0)) (bk BK196)) : gb196 ≠ gb197)); have NB197_196 := aZ_ ((by rw [hg]; exact Nat.ne_of_gt (blk_lt (g := gb196) (o := .cells #[.int .i64 a0_0, .int .i64 a0_1, .slice A0_2 l0_2.length c0_2, .slice A0_3 l0_3.length c0_3] 51 (0, 0)) (bk BK196)) : gb197 ≠ gb196)); replace BK196 := aZ_ (blk_below (g := gb196) (o := .cells #[.int .i64 a0_0, .int .i64 a0_1, .slice A0_2 l0_2.length c0_2, .slice A0_3 l0_3.length c0_3] 51 (0, 0)) (bk BK196) hb); clear hb hbox hg; have hnb9 := NB196_197.out; have hnc9 := NB197_196.out; obtain ⟨hcz10_0, hcz10_1, hcz10_2, hcz10_3, hfz10_0, hfz10_1, hfz10_2, hfz10_3⟩ := bc4 BK196))
    have pi201 : (0 ≤ ((ji3) : Int)) = True := eq_true (of_decide_eq_true asm_)
    have qi201 : ((ji3) < (y198.length : Int)) = True := eq_true (of_decide_eq_true asm_)
    replace BK196 := aZ_ (blk_drew BK196.out)
    replace BK197 := aZ_ (blk_drew BK197.out)
    replace HB := aZ_ (below_drew1 HB.out)
    refine start_ (n := 9) (S := fun w' => True) (ds := []) #[false, false, false, false, false, false, false, false, false] (by kernel_rfl) rfl rfl trivial (fun hHeld => ?_); refine with_tabW chancellaw3_Uid.tab4 chancellaw3_Uid.bits4 (fun HT_ HW_ => ?_)
    generalize w8.drew = w11 at BK196 BK197 HB hHeld ⊢
    refine pS_ 1 12 (fa 9 2) HT_ ?_
    refine pS_ 4 15 (fa 9 18) HT_ ?_
    refine inv_at [0, 2, 3, 5, 6, 7, 8] (fun a0_ b a w' => ∃ (v199 : Value) (adz_v199 : Addr) (m2_ : Value), a = putSel a0_ b [(0, 11, v199), (2, 13, m2_), (3, 14, .string (rdOf ByteArray.empty y198 (ji3))), (5, 16, .slice A0_2 l0_2.length c0_2), (6, 17, .string t202), (7, 18, .agg #[.string (rdOf ByteArray.empty y198 (ji3)), .string t202])] ∧ (w'.heap[gb196]? = some (.cells #[.int .i64 a0_0, .int .i64 a0_1, .slice A0_2 l0_2.length c0_2, .slice A0_3 l0_3.length c0_3] 51 (0, 0))) ∧ (b 8 = false → w'.heap[gb197]? = some (.cells #[.string (⟨#[]⟩ : ByteArray), .string (⟨#[]⟩ : ByteArray)] 28 (0, 0))) ∧ (Below w.heap.size w w') ∧ (b 0 = true → Kd.R Kd.string 9 w' w.heap.size (fun _ => True) v199 y198) ∧ (b 0 = true → ∃ c_, (v199 : Value) = .slice (some adz_v199) y198.length c_) ∧ (b 8 = true → w'.heap[gb197]? = some (.cells #[.string (rdOf ByteArray.empty y198 (ji3)), .string t202] 28 (0, 0))) ∧ (b 2 = true → (m2_ : Value) = .pointer (some (adz_v199.add ((ji3)).toNat)))) HT_.out HW_.out (by kernel_rfl) (by kernel_rfl) ?_ ?_ ?_
    ·
     exact ⟨.bool false, ⟨0, 0, none⟩, .bool false, by simp only [putSel, Bool.false_eq_true, if_false], BK196.out, fun _ => BK197.out, HB.out, fun h_ => absurd h_ (by decide), fun h_ => absurd h_ (by decide), fun h_ => absurd h_ (by decide), fun h_ => absurd h_ (by decide)⟩
    ·
     skip
     clear BK196 BK197 HB
     refine steps_cons ?_ ?_
     ·
      rintro b a w' ⟨v199, adz_v199, m2_, ha, Q_BK196, Q_BK197, Q_HB, Q_HO200, Q_HA_HO200, Q_BK197_e8, Q_X2_⟩ hb_ hon hoff
      refine ⟨_, rfl, fun K hK => ?_⟩
      replace ha := aZ_ ha
      have BK196 := aZ_ Q_BK196
      have BK197 := aZ_ (Q_BK197 (hoff 8 (by kernel_rfl)))
      have HB := aZ_ Q_HB
      refine Kd.R_lit_step Kd.string _ 9 ?hg (N := 11) ?hd (xs := ([(⟨#[85, 115, 101, 114]⟩ : ByteArray), (⟨#[71, 114, 111, 117, 112]⟩ : ByteArray), (⟨#[68, 111, 99]⟩ : ByteArray), (⟨#[65, 99, 116, 105, 111, 110]⟩ : ByteArray), (⟨#[95, 120, 57]⟩ : ByteArray)] : List ByteArray)) (inner := [.string (⟨#[85, 115, 101, 114]⟩ : ByteArray), .string (⟨#[71, 114, 111, 117, 112]⟩ : ByteArray), .string (⟨#[68, 111, 99]⟩ : ByteArray), .string (⟨#[65, 99, 116, 105, 111, 110]⟩ : ByteArray), .string (⟨#[95, 120, 57]⟩ : ByteArray)]) (ok := fun _ => True) (okp := fun _ => True) ?hr ?hp (fun _ hk => hk) trivial (Below.refl _ _) (Nat.le_refl _) (by simp) ?_; (case hd => rfl); (case hg => rfl); (case hr => first | (go_simp; done) | (go_simp; rfl)); (case hp => exact (Reps.one (show Kd.M Kd.string _ _ _ (⟨#[85, 115, 101, 114]⟩ : ByteArray) [.string (⟨#[85, 115, 101, 114]⟩ : ByteArray)] from rfl) (Reps.one (show Kd.M Kd.string _ _ _ (⟨#[71, 114, 111, 117, 112]⟩ : ByteArray) [.string (⟨#[71, 114, 111, 117, 112]⟩ : ByteArray)] from rfl) (Reps.one (show Kd.M Kd.string _ _ _ (⟨#[68, 111, 99]⟩ : ByteArray) [.string (⟨#[68, 111, 99]⟩ : ByteArray)] from rfl) (Reps.one (show Kd.M Kd.string _ _ _ (⟨#[65, 99, 116, 105, 111, 110]⟩ : ByteArray) [.string (⟨#[65, 99, 116, 105, 111, 110]⟩ : ByteArray)] from rfl) (Reps.one (show Kd.M Kd.string _ _ _ (⟨#[95, 120, 57]⟩ : ByteArray) [.string (⟨#[95, 120, 57]⟩ : ByteArray)] from rfl) (Reps.none _ _)))))))
      intro v199 w12 ho13 hb hg_ hnew_
      clear hg_ hnew_
      (first | rw [← Ny198.out] at ho13 | (simp only [Int.reduceToNat] at ho13; rw [← Ny198.out] at ho13))
      have HO200 := aZ_ (Kd.R_lower ho13 (below_size (bl2 HB GE196 GE197)))
      replace BK196 := aZ_ (blk_below (g := gb196) (o := .cells #[.int .i64 a0_0, .int .i64 a0_1, .slice A0_2 l0_2.length c0_2, .slice A0_3 l0_3.length c0_3] 51 (0, 0)) (bk BK196) hb)
      replace BK197 := aZ_ (blk_below (g := gb197) (o := .cells #[.string (⟨#[]⟩ : ByteArray), .string (⟨#[]⟩ : ByteArray)] 28 (0, 0)) (bk BK197) hb)
      replace HB := aZ_ (below_step (bl2 HB GE196 GE197) hb)
      clear hb ho13
      obtain ⟨Ao14, co14, eo14⟩ := Kd.R_slice HO200.out
      subst eo14
      obtain ⟨ado14, fo14, _⟩ := Kd.at_string (Kd.R_reads' HO200.out).2.2 0 (by decide) (by rw [Ny198.out]; simp)
      cases fo14
      refine hK.out _ _ ⟨.slice (some ado14) y198.length co14, ado14, m2_, (by rw [ha.out]; exact putSel_upk 0 hb_ rfl rfl rfl), (bk BK196), fun _ => (bk BK197), (bl2 HB GE196 GE197), fun _ => (kR HO200), fun _ => ⟨_, rfl⟩, fun h0_ => absurd ((hoff 8 (by kernel_rfl)).symm.trans h0_) (by decide), fun h0_ => absurd ((hoff 2 (by kernel_rfl)).symm.trans h0_) (by decide)⟩
     refine steps_cons ?_ ?_
     ·
      rintro b a w' ⟨v199, adz_v199, m2_, ha, Q_BK196, Q_BK197, Q_HB, Q_HO200, Q_HA_HO200, Q_BK197_e8, Q_X2_⟩ hb_ hon hoff
      refine ⟨_, rfl, fun K hK => ?_⟩
      have e11 : a.tmps[11]? = some (v199) := by rw [ha]; exact putSel_on (e := (0, 11, v199)) 0 rfl rfl (hon 0 (by kernel_rfl)) rfl
      have e12 : a.tmps[12]? = some (.int .i64 ji3) := by rw [ha]; exact (putSel_off rfl).trans rfl
      replace ha := aZ_ ha
      have BK196 := aZ_ Q_BK196
      have BK197 := aZ_ (Q_BK197 (hoff 8 (by kernel_rfl)))
      have HB := aZ_ Q_HB
      have HO200 := aZ_ (Q_HO200 (hon 0 (by kernel_rfl)))
      have HA_HO200 := aZ_ (Q_HA_HO200 (hon 0 (by kernel_rfl)))
      obtain ⟨c_, hv_⟩ := HA_HO200.out
      rw [hv_] at e11
      refine value_ (w1 := w') (v := .pointer (some (adz_v199.add ((ji3)).toNat))) (by rfl) rfl ?_ ?_
      ·
       go_simp
       (try simp only [i64_w])
       try rfl
      refine hK.out _ _ ⟨v199, adz_v199, (.pointer (some (adz_v199.add ((ji3)).toNat))), (by rw [ha.out]; exact putSel_upk 1 hb_ rfl rfl rfl), Q_BK196, Q_BK197, Q_HB, Q_HO200, Q_HA_HO200, fun h0_ => absurd ((hoff 8 (by kernel_rfl)).symm.trans h0_) (by decide), fun _ => rfl⟩
     refine steps_cons ?_ ?_
     ·
      rintro b a w' ⟨v199, adz_v199, m2_, ha, Q_BK196, Q_BK197, Q_HB, Q_HO200, Q_HA_HO200, Q_BK197_e8, Q_X2_⟩ hb_ hon hoff
      refine ⟨_, rfl, fun K hK => ?_⟩
      have e13 : a.tmps[13]? = some (m2_) := by rw [ha]; exact putSel_on (e := (2, 13, m2_)) 1 rfl rfl (hon 2 (by kernel_rfl)) rfl
      rw [Q_X2_ (hon 2 (by kernel_rfl))] at e13
      replace ha := aZ_ ha
      have BK196 := aZ_ Q_BK196
      have BK197 := aZ_ (Q_BK197 (hoff 8 (by kernel_rfl)))
      have HB := aZ_ Q_HB
      have HO200 := aZ_ (Q_HO200 (hon 0 (by kernel_rfl)))
      have HA_HO200 := aZ_ (Q_HA_HO200 (hon 0 (by kernel_rfl)))
      obtain ⟨c_, hv_⟩ := HA_HO200.out
      have hF_ := HO200.out
      rw [hv_] at hF_
      obtain ⟨ad_, ea_, hx_⟩ := Kd.at_string (Kd.R_reads' hF_).2.2 (ji3) (of_eq_true pi201) (of_eq_true qi201)
      cases ea_
      refine value_ (w1 := w') (v := .string (rdOf ByteArray.empty y198 (ji3))) (by rfl) rfl ?_ ?_
      ·
       go_simp
       (try simp only [i64_w])
       try rfl
      refine hK.out _ _ ⟨v199, adz_v199, m2_, (by rw [ha.out]; exact putSel_upk 2 hb_ rfl rfl rfl), Q_BK196, Q_BK197, Q_HB, Q_HO200, Q_HA_HO200, fun h0_ => absurd ((hoff 8 (by kernel_rfl)).symm.trans h0_) (by decide), Q_X2_⟩
     refine steps_cons ?_ ?_
     ·
      rintro b a w' ⟨v199, adz_v199, m2_, ha, Q_BK196, Q_BK197, Q_HB, Q_HO200, Q_HA_HO200, Q_BK197_e8, Q_X2_⟩ hb_ hon hoff
      refine ⟨_, rfl, fun K hK => ?_⟩
      have e15 : a.tmps[15]? = some (.pointer (some ⟨gb196, 2, none⟩)) := by rw [ha]; exact (putSel_off rfl).trans rfl
      replace ha := aZ_ ha
      have BK196 := aZ_ Q_BK196
      have BK197 := aZ_ (Q_BK197 (hoff 8 (by kernel_rfl)))
      have HB := aZ_ Q_HB
      have hc0_ : w'.cell? ⟨gb196, 0, none⟩ = some (.int .i64 a0_0) := (blk_cell BK196.out 0).trans rfl
      have hc1_ : w'.cell? ⟨gb196, 1, none⟩ = some (.int .i64 a0_1) := (blk_cell BK196.out 1).trans rfl
      have hc2_ : w'.cell? ⟨gb196, 2, none⟩ = some (.slice A0_2 l0_2.length c0_2) := (blk_cell BK196.out 2).trans rfl
      have hc3_ : w'.cell? ⟨gb196, 3, none⟩ = some (.slice A0_3 l0_3.length c0_3) := (blk_cell BK196.out 3).trans rfl
      refine value_ (w1 := w') (v := .slice A0_2 l0_2.length c0_2) (by rfl) rfl ?_ ?_
      ·
       go_simp
       (try simp only [i64_w])
       try rfl
      refine hK.out _ _ ⟨v199, adz_v199, m2_, (by rw [ha.out]; exact putSel_upk 3 hb_ rfl rfl rfl), Q_BK196, Q_BK197, Q_HB, Q_HO200, Q_HA_HO200, fun h0_ => absurd ((hoff 8 (by kernel_rfl)).symm.trans h0_) (by decide), Q_X2_⟩
     refine steps_cons ?_ ?_
     ·
      rintro b a w' ⟨v199, adz_v199, m2_, ha, Q_BK196, Q_BK197, Q_HB, Q_HO200, Q_HA_HO200, Q_BK197_e8, Q_X2_⟩ hb_ hon hoff
      refine ⟨_, rfl, fun K hK => ?_⟩
      have e16 : a.tmps[16]? = some (.slice A0_2 l0_2.length c0_2) := by rw [ha]; exact putSel_on (e := (5, 16, .slice A0_2 l0_2.length c0_2)) 3 rfl rfl (hon 5 (by kernel_rfl)) rfl
      replace ha := aZ_ ha
      have BK196 := aZ_ Q_BK196
      have BK197 := aZ_ (Q_BK197 (hoff 8 (by kernel_rfl)))
      have HB := aZ_ Q_HB
      refine goes_ Try.func82 (by kernel_rfl) rfl #[.slice A0_2 l0_2.length c0_2] (by rfl) rfl rfl (by first | (simp only [List.map_toArray, List.map_cons, List.map_nil, Act.eval, Array.getD_eq_getD_getElem?, Option.getD_some, e16]; done) | (simp only [List.map_toArray, List.map_cons, List.map_nil, Act.eval, Array.getD_eq_getD_getElem?, Option.getD_some, e16]; rfl)) ?_
      with_reducible refine (chancellaw3_id.calls k _ _ l0_2 t202 _ ?side1 ?side2 A6.out).mono ?_
      (case side1 => exact kC (Kd.C_below HR0_2.out HB.out))
      (case side2 => exact HC0_2.out)
      rintro e w12 ⟨rfl, hb⟩
      refine ⟨_, rfl, ?_⟩
      have n0_ := aZ_ (blk_below (g := gb196) (o := .cells #[.int .i64 a0_0, .int .i64 a0_1, .slice A0_2 l0_2.length c0_2, .slice A0_3 l0_3.length c0_3] 51 (0, 0)) (bk BK196) hb)
      have n1_ := aZ_ (blk_below (g := gb197) (o := .cells #[.string (⟨#[]⟩ : ByteArray), .string (⟨#[]⟩ : ByteArray)] 28 (0, 0)) (bk BK197) hb)
      have n2_ := aZ_ (below_step (bl2 HB GE196 GE197) hb)
      have z_HO200 := fun (h0_ : b 0 = true) => (show Kd.R Kd.string 9 w12 w.heap.size (fun _ => True) v199 y198 from by first | exact (Kd.R_below (by (with_reducible repeat (first | apply Kd.R_alloc | apply Kd.R_drewN | apply Kd.R_drew)); exact (Q_HO200 h0_)) hb) | exact Kd.R_mono (Kd.R_below (by (with_reducible repeat (first | apply Kd.R_alloc | apply Kd.R_drewN | apply Kd.R_drew)); exact (Q_HO200 h0_)) hb) (fun _ h_ => by first | trivial | exact h_ | exact h_.1))
      clear BK196
      clear BK197
      clear HB
      have BK196 := n0_
      have BK197 := n1_
      have HB := n2_
      clear n0_ n1_ n2_
      (try clear hb)
      (try clear hb2)
      (try clear hk)
      (try clear hi)
      refine hK.out _ _ ⟨v199, adz_v199, m2_, (by rw [ha.out]; exact putSel_upk 4 hb_ rfl rfl rfl), (bk BK196), fun _ => (bk BK197), (bl2 HB GE196 GE197), z_HO200, Q_HA_HO200, fun h0_ => absurd ((hoff 8 (by kernel_rfl)).symm.trans h0_) (by decide), Q_X2_⟩
     refine steps_cons ?_ ?_
     ·
      rintro b a w' ⟨v199, adz_v199, m2_, ha, Q_BK196, Q_BK197, Q_HB, Q_HO200, Q_HA_HO200, Q_BK197_e8, Q_X2_⟩ hb_ hon hoff
      refine ⟨_, rfl, fun K hK => ?_⟩
      have e14 : a.tmps[14]? = some (.string (rdOf ByteArray.empty y198 (ji3))) := by rw [ha]; exact putSel_on (e := (3, 14, .string (rdOf ByteArray.empty y198 (ji3)))) 2 rfl rfl (hon 3 (by kernel_rfl)) rfl
      have e17 : a.tmps[17]? = some (.string t202) := by rw [ha]; exact putSel_on (e := (6, 17, .string t202)) 4 rfl rfl (hon 6 (by kernel_rfl)) rfl
      replace ha := aZ_ ha
      have BK196 := aZ_ Q_BK196
      have BK197 := aZ_ (Q_BK197 (hoff 8 (by kernel_rfl)))
      have HB := aZ_ Q_HB
      have HO200 := aZ_ (Q_HO200 (hon 0 (by kernel_rfl)))
      have HA_HO200 := aZ_ (Q_HA_HO200 (hon 0 (by kernel_rfl)))
      refine value_ (w1 := w') (v := .agg #[.string (rdOf ByteArray.empty y198 (ji3)), .string t202]) (by rfl) rfl ?_ ?_
      ·
       go_simp
       (try simp only [i64_w])
       try rfl
      refine hK.out _ _ ⟨v199, adz_v199, m2_, (by rw [ha.out]; exact putSel_upk 5 hb_ rfl rfl rfl), Q_BK196, Q_BK197, Q_HB, Q_HO200, Q_HA_HO200, fun h0_ => absurd ((hoff 8 (by kernel_rfl)).symm.trans h0_) (by decide), Q_X2_⟩
     refine steps_cons ?_ ?_
     ·
      rintro b a w' ⟨v199, adz_v199, m2_, ha, Q_BK196, Q_BK197, Q_HB, Q_HO200, Q_HA_HO200, Q_BK197_e8, Q_X2_⟩ hb_ hon hoff
      refine ⟨_, rfl, fun K hK => ?_⟩
      have e2 : a.tmps[2]? = some (.pointer (some ⟨gb197, 0, none⟩)) := by rw [ha]; exact (putSel_off rfl).trans rfl
      have e18 : a.tmps[18]? = some (.agg #[.string (rdOf ByteArray.empty y198 (ji3)), .string t202]) := by rw [ha]; exact putSel_on (e := (7, 18, .agg #[.string (rdOf ByteArray.empty y198 (ji3)), .string t202])) 5 rfl rfl (hon 7 (by kernel_rfl)) rfl
      replace ha := aZ_ ha
      have BK196 := aZ_ Q_BK196
      have BK197 := aZ_ (Q_BK197 hb_)
      have HB := aZ_ Q_HB
      have HO200 := aZ_ (Q_HO200 (hon 0 (by kernel_rfl)))
      have HA_HO200 := aZ_ (Q_HA_HO200 (hon 0 (by kernel_rfl)))
      obtain ⟨co17, eo17⟩ := HA_HO200.out
      clear HA_HO200
      subst eo17
      have hs18 : w'.cell? ⟨gb197, 0, none⟩ = some (.string (⟨#[]⟩ : ByteArray)) := (blk_cell BK197.out 0).trans rfl
      have hfs18 := blk_frozen BK197.out 0
      have hns18_0 := NB196_197.out
      have hms18_0 := NB197_196.out
      have hs19 : w'.cell? ⟨gb197, 1, none⟩ = some (.string (⟨#[]⟩ : ByteArray)) := (blk_cell BK197.out 1).trans rfl
      have hfs19 := blk_frozen BK197.out 1
      have hns19_0 := NB196_197.out
      have hms19_0 := NB197_196.out
      refine skip_ (w1 := ?_) (by rfl) rfl ?_ ?_
      rotate_left
      ·
       go_simp
       rfl
      refine hK.out _ _ ⟨.slice (some adz_v199) y198.length co17, adz_v199, m2_, (by rw [ha.out]; exact putSel_none (v := undef) rfl), (by (with_reducible repeat (first | refine blk_drewN ?_ _ | refine blk_drew ?_ | refine blk_alloc ?_ _)); refine blk_far ?_ NB196_197.out _; (with_reducible repeat (first | refine blk_drewN ?_ _ | refine blk_drew ?_ | refine blk_alloc ?_ _)); refine blk_far ?_ NB196_197.out _; (with_reducible repeat (first | refine blk_drewN ?_ _ | refine blk_drew ?_ | refine blk_alloc ?_ _)); exact BK196.out), fun h0_ => absurd ((up_self b 8).symm.trans h0_) (by decide), (bl2 HB GE196 GE197), fun _ => (by (with_reducible repeat (first | apply Kd.R_alloc | apply Kd.R_drewN | apply Kd.R_drew)); exact Kd.R_mono (Kd.R_far (p := ⟨gb197, 1, none⟩) (Kd.R_far (p := ⟨gb197, 0, none⟩) (Kd.R_types HO200.out BK197.out (by decide)) (fun _ hk => hk.2) (.string (rdOf ByteArray.empty y198 (ji3)))) (fun _ hk => hk.2) (.string t202)) (fun _ hk => trivial)), fun _ => ⟨_, rfl⟩, fun _ => (by (with_reducible repeat (first | refine blk_drewN ?_ _ | refine blk_drew ?_ | refine blk_alloc ?_ _)); refine blk_put (cs := #[.string (rdOf ByteArray.empty y198 (ji3)), .string (⟨#[]⟩ : ByteArray)]) ?_ 1 _ rfl; (with_reducible repeat (first | refine blk_drewN ?_ _ | refine blk_drew ?_ | refine blk_alloc ?_ _)); refine blk_put (cs := #[.string (⟨#[]⟩ : ByteArray), .string (⟨#[]⟩ : ByteArray)]) ?_ 0 _ rfl; (with_reducible repeat (first | refine blk_drewN ?_ _ | refine blk_drew ?_ | refine blk_alloc ?_ _)); exact BK197.out), Q_X2_⟩
     exact steps_nil
    rintro b a w18 hall ⟨v199, adz_v199, m2_, ha, Q_BK196, Q_BK197, Q_HB, Q_HO200, Q_HA_HO200, Q_BK197_e8, Q_X2_⟩
    clear BK196 BK197 HB
    have hb0_ := hall 0 (by kernel_rfl)
    have hb2_ := hall 2 (by kernel_rfl)
    have hb3_ := hall 3 (by kernel_rfl)
    have hb5_ := hall 5 (by kernel_rfl)
    have hb6_ := hall 6 (by kernel_rfl)
    have hb7_ := hall 7 (by kernel_rfl)
    have hb8_ := hall 8 (by kernel_rfl)
    subst ha
    obtain rfl := Q_X2_ hb2_
    simp only [putSel, hb0_, hb2_, hb3_, hb5_, hb6_, hb7_, hb8_, if_true, Act.put, List.setIfInBounds_toArray, List.set_cons_zero, List.set_cons_succ]
    have BK196 := aZ_ Q_BK196
    clear Q_BK196
    clear Q_BK197
    have HB := aZ_ Q_HB
    clear Q_HB
    have HO200 := aZ_ (Q_HO200 hb0_)
    clear Q_HO200
    have HA_HO200 := aZ_ (Q_HA_HO200 hb0_)
    clear Q_HA_HO200
    have BK197 := aZ_ (Q_BK197_e8 hb8_)
    clear Q_BK197_e8
    clear hall hb0_ hb2_ hb3_ hb5_ hb6_ hb7_ hb8_
    obtain ⟨co19, eo19⟩ := HA_HO200.out
    clear HA_HO200
    subst eo19
    try go_wp2
    refine bodyPost_ret (results_cell_row rfl _ _ gb197 28 #[.string (rdOf ByteArray.empty y198 (ji3)), .string t202] (0, 0) _ rfl (bk BK197) Try.underlying28 rfl (by kernel_rfl)) rfl ?_
    exact ⟨by first | rfl | (simp [errW_none, errW_some] <;> rfl) | (simp only [← hji3]; first | rfl | (simp [errW_none, errW_some] <;> rfl)) | (simp [*, errW_none, errW_some] <;> rfl), bl2 HB GE196 GE197⟩
   ·
    rw [if_neg c5] at H
    exact absurd H (by simp)
  ·
   rw [if_neg c4] at H
   exact absurd H (by simp)
 ·
  rw [if_neg c2] at H
  have c2b0 : decide ((Int.tmod a0_1 5) < 0) = false := decide_eq_false c2
  clear c2
  obtain ⟨y203, hy203⟩ : ∃ y_ : List ByteArray, y_ = (([(⟨#[85, 115, 101, 114]⟩ : ByteArray), (⟨#[71, 114, 111, 117, 112]⟩ : ByteArray), (⟨#[68, 111, 99]⟩ : ByteArray), (⟨#[65, 99, 116, 105, 111, 110]⟩ : ByteArray), (⟨#[95, 120, 57]⟩ : ByteArray)] : List ByteArray)) := ⟨_, rfl⟩
  replace H : (if 0 ≤ (Int.tmod a0_1 5) then (if (Int.tmod a0_1 5) < (y203.length : Int) then ((chancellaw3_id.f k l0_2).bind fun t207 => (some (rdOf ByteArray.empty y203 (Int.tmod a0_1 5), t207))) else (none)) else (none)) = some (r1, r2) := by first | (rw [hy203]; with_reducible exact H) | (have H2_ := (Option.bind_some _ _).symm.trans H; rw [hy203]; with_reducible exact H2_) | (have H2_ := (Option.bind_some _ _).symm.trans H; with_reducible exact H2_) | with_reducible exact H | (rw [hy203]; exact H) | exact H
  have Ny203 := aZ_ hy203
  clear hy203
  obtain ⟨ji20, hji20⟩ : ∃ j_ : Int, (Int.tmod a0_1 5) = j_ := ⟨_, rfl⟩
  replace H : (if 0 ≤ (ji20) then (if (ji20) < (y203.length : Int) then ((chancellaw3_id.f k l0_2).bind fun t207 => (some (rdOf ByteArray.empty y203 (ji20), t207))) else (none)) else (none)) = some (r1, r2) := by first | (rw [hji20] at H; exact H) | (simp only [hji20] at H ⊢; exact H)
  (try rw [hji20] at c2b0)
  by_cases c21 : 0 ≤ (ji20)
  ·
   rw [if_pos c21] at H
   have c21b0 : decide (0 ≤ (ji20)) = true := decide_eq_true c21
   clear c21
   by_cases c22 : (ji20) < (y203.length : Int)
   ·
    rw [if_pos c22] at H
    have c22b0 : decide ((ji20) < (y203.length : Int)) = true := decide_eq_true c22
    clear c22
    replace H := Option.bind_eq_some_iff.mp H
    obtain ⟨t207, A230, H⟩ := H
    replace H : (some (rdOf ByteArray.empty y203 (ji20), t207)) = some (r1, r2) := H
    have A23 := aZ_ A230
    clear A230
    simp only [Option.some.injEq, Prod.mk.injEq] at H
    obtain ⟨rfl, rfl⟩ := H
    go_enter Try.func83, Try.ntmps83
    try go_wp2_with (first | ((with_reducible refine gate_dst (N := 1) rfl ?_); refine bxE 1 #[.int .i64 a0_0, .int .i64 a0_1, .slice A0_2 l0_2.length c0_2, .slice A0_3 l0_3.length c0_3] 51 ?_; intro gb196 hg w24 hbox hb; have BK196 := aZ_ (hbox); have GW196 := aZ_ ((by rw [hg]; exact (below_size (bl HB)) : w.heap.size ≤ gb196)); have GE196 := aZ_ ((by rw [hg]; exact (below_size (bl HB)) : w.heap.size ≤ gb196)); replace HB := aZ_ (below_step (bl HB) hb); clear hb hbox hg) | ((with_reducible refine gate_dst (N := 2) rfl ?_); refine bxE 2 #[.string (⟨#[]⟩ : ByteArray), .string (⟨#[]⟩ : ByteArray)] 28 ?_; intro gb197 hg w25 hbox hb; have BK197 := aZ_ (hbox); have GW197 := aZ_ ((by rw [hg]; exact (below_size (bl1 HB GE196)) : w.heap.size ≤ gb197)); have GE197 := aZ_ ((by rw [hg]; exact (below_size (bl1 HB GE196)) : w.heap.size ≤ gb197)); replace HB := aZ_ (below_step (bl1 HB GE196) hb); have NB196_197 := aZ_ ((by rw [hg]; exact Nat.ne_of_lt (blk_lt (g := gb196) (o := .cells #[.int .i64 a0_0, .int .i64 a0_1, .slice A0_2 l0_2.length c0_2, .slice A0_3 l0_3.length c0_3] 51 (0, 0)) (bk BK196)) : gb196 ≠ gb197)); have NB197_196 := aZ_ ((by rw [hg]; exact Nat.ne_of_gt (blk_lt (g := gb196) (o := .cells #[.int .i64 a0_0, .int .i64 a0_1, .slice A0_2 l0_2.length c0_2, .slice A0_3 l0_3.length c0_3] 51 (0, 0)) (bk BK196)) : gb197 ≠ gb196)); replace BK196 := aZ_ (blk_below (g := gb196) (o := .cells #[.int .i64 a0_0, .int .i64 a0_1, .slice A0_2 l0_2.length c0_2, .slice A0_3 l0_3.length c0_3] 51 (0, 0)) (bk BK196) hb); clear hb hbox hg; have hnb26 := NB196_197.out; have hnc26 := NB197_196.out; obtain ⟨hcz27_0, hcz27_1, hcz27_2, hcz27_3, hfz27_0, hfz27_1, hfz27_2, hfz27_3⟩ := bc4 BK196))
    have pi206 : (0 ≤ ((ji20) : Int)) = True := eq_true (of_decide_eq_true asm_)
    have qi206 : ((ji20) < (y203.length : Int)) = True := eq_true (of_decide_eq_true asm_)
    replace BK196 := aZ_ (blk_drew BK196.out)
    replace BK197 := aZ_ (blk_drew BK197.out)
    replace HB := aZ_ (below_drew1 HB.out)
    refine start_ (n := 9) (S := fun w' => True) (ds := []) #[false, false, false, false, false, false, false, false, false] (by kernel_rfl) rfl rfl trivial (fun hHeld => ?_); refine with_tabW chancellaw3_Uid.tab4 chancellaw3_Uid.bits4 (fun HT_ HW_ => ?_)
    generalize w25.drew = w28 at BK196 BK197 HB hHeld ⊢
    refine pS_ 1 12 (fa 9 2) HT_ ?_
    refine pS_ 4 15 (fa 9 18) HT_ ?_
    refine inv_at [0, 2, 3, 5, 6, 7, 8] (fun a0_ b a w' => ∃ (v204 : Value) (adz_v204 : Addr) (m2_ : Value), a = putSel a0_ b [(0, 11, v204), (2, 13, m2_), (3, 14, .string (rdOf ByteArray.empty y203 (ji20))), (5, 16, .slice A0_2 l0_2.length c0_2), (6, 17, .string t207), (7, 18, .agg #[.string (rdOf ByteArray.empty y203 (ji20)), .string t207])] ∧ (w'.heap[gb196]? = some (.cells #[.int .i64 a0_0, .int .i64 a0_1, .slice A0_2 l0_2.length c0_2, .slice A0_3 l0_3.length c0_3] 51 (0, 0))) ∧ (b 8 = false → w'.heap[gb197]? = some (.cells #[.string (⟨#[]⟩ : ByteArray), .string (⟨#[]⟩ : ByteArray)] 28 (0, 0))) ∧ (Below w.heap.size w w') ∧ (b 0 = true → Kd.R Kd.string 9 w' w.heap.size (fun _ => True) v204 y203) ∧ (b 0 = true → ∃ c_, (v204 : Value) = .slice (some adz_v204) y203.length c_) ∧ (b 8 = true → w'.heap[gb197]? = some (.cells #[.string (rdOf ByteArray.empty y203 (ji20)), .string t207] 28 (0, 0))) ∧ (b 2 = true → (m2_ : Value) = .pointer (some (adz_v204.add ((ji20)).toNat)))) HT_.out HW_.out (by kernel_rfl) (by kernel_rfl) ?_ ?_ ?_
    ·
     exact ⟨.bool false, ⟨0, 0, none⟩, .bool false, by simp only [putSel, Bool.false_eq_true, if_false], BK196.out, fun _ => BK197.out, HB.out, fun h_ => absurd h_ (by decide), fun h_ => absurd h_ (by decide), fun h_ => absurd h_ (by decide), fun h_ => absurd h_ (by decide)⟩
    ·
     skip
     clear BK196 BK197 HB
     refine steps_cons ?_ ?_
     ·
      rintro b a w' ⟨v204, adz_v204, m2_, ha, Q_BK196, Q_BK197, Q_HB, Q_HO205, Q_HA_HO205, Q_BK197_e8, Q_X2_⟩ hb_ hon hoff
      refine ⟨_, rfl, fun K hK => ?_⟩
      replace ha := aZ_ ha
      have BK196 := aZ_ Q_BK196
      have BK197 := aZ_ (Q_BK197 (hoff 8 (by kernel_rfl)))
      have HB := aZ_ Q_HB
      refine Kd.R_lit_step Kd.string _ 9 ?hg (N := 11) ?hd (xs := ([(⟨#[85, 115, 101, 114]⟩ : ByteArray), (⟨#[71, 114, 111, 117, 112]⟩ : ByteArray), (⟨#[68, 111, 99]⟩ : ByteArray), (⟨#[65, 99, 116, 105, 111, 110]⟩ : ByteArray), (⟨#[95, 120, 57]⟩ : ByteArray)] : List ByteArray)) (inner := [.string (⟨#[85, 115, 101, 114]⟩ : ByteArray), .string (⟨#[71, 114, 111, 117, 112]⟩ : ByteArray), .string (⟨#[68, 111, 99]⟩ : ByteArray), .string (⟨#[65, 99, 116, 105, 111, 110]⟩ : ByteArray), .string (⟨#[95, 120, 57]⟩ : ByteArray)]) (ok := fun _ => True) (okp := fun _ => True) ?hr ?hp (fun _ hk => hk) trivial (Below.refl _ _) (Nat.le_refl _) (by simp) ?_; (case hd => rfl); (case hg => rfl); (case hr => first | (go_simp; done) | (go_simp; rfl)); (case hp => exact (Reps.one (show Kd.M Kd.string _ _ _ (⟨#[85, 115, 101, 114]⟩ : ByteArray) [.string (⟨#[85, 115, 101, 114]⟩ : ByteArray)] from rfl) (Reps.one (show Kd.M Kd.string _ _ _ (⟨#[71, 114, 111, 117, 112]⟩ : ByteArray) [.string (⟨#[71, 114, 111, 117, 112]⟩ : ByteArray)] from rfl) (Reps.one (show Kd.M Kd.string _ _ _ (⟨#[68, 111, 99]⟩ : ByteArray) [.string (⟨#[68, 111, 99]⟩ : ByteArray)] from rfl) (Reps.one (show Kd.M Kd.string _ _ _ (⟨#[65, 99, 116, 105, 111, 110]⟩ : ByteArray) [.string (⟨#[65, 99, 116, 105, 111, 110]⟩ : ByteArray)] from rfl) (Reps.one (show Kd.M Kd.string _ _ _ (⟨#[95, 120, 57]⟩ : ByteArray) [.string (⟨#[95, 120, 57]⟩ : ByteArray)] from rfl) (Reps.none _ _)))))))
      intro v204 w29 ho30 hb hg_ hnew_
      clear hg_ hnew_
      (first | rw [← Ny203.out] at ho30 | (simp only [Int.reduceToNat] at ho30; rw [← Ny203.out] at ho30))
      have HO205 := aZ_ (Kd.R_lower ho30 (below_size (bl2 HB GE196 GE197)))
      replace BK196 := aZ_ (blk_below (g := gb196) (o := .cells #[.int .i64 a0_0, .int .i64 a0_1, .slice A0_2 l0_2.length c0_2, .slice A0_3 l0_3.length c0_3] 51 (0, 0)) (bk BK196) hb)
      replace BK197 := aZ_ (blk_below (g := gb197) (o := .cells #[.string (⟨#[]⟩ : ByteArray), .string (⟨#[]⟩ : ByteArray)] 28 (0, 0)) (bk BK197) hb)
      replace HB := aZ_ (below_step (bl2 HB GE196 GE197) hb)
      clear hb ho30
      obtain ⟨Ao31, co31, eo31⟩ := Kd.R_slice HO205.out
      subst eo31
      obtain ⟨ado31, fo31, _⟩ := Kd.at_string (Kd.R_reads' HO205.out).2.2 0 (by decide) (by rw [Ny203.out]; simp)
      cases fo31
      refine hK.out _ _ ⟨.slice (some ado31) y203.length co31, ado31, m2_, (by rw [ha.out]; exact putSel_upk 0 hb_ rfl rfl rfl), (bk BK196), fun _ => (bk BK197), (bl2 HB GE196 GE197), fun _ => (kR HO205), fun _ => ⟨_, rfl⟩, fun h0_ => absurd ((hoff 8 (by kernel_rfl)).symm.trans h0_) (by decide), fun h0_ => absurd ((hoff 2 (by kernel_rfl)).symm.trans h0_) (by decide)⟩
     refine steps_cons ?_ ?_
     ·
      rintro b a w' ⟨v204, adz_v204, m2_, ha, Q_BK196, Q_BK197, Q_HB, Q_HO205, Q_HA_HO205, Q_BK197_e8, Q_X2_⟩ hb_ hon hoff
      refine ⟨_, rfl, fun K hK => ?_⟩
      have e11 : a.tmps[11]? = some (v204) := by rw [ha]; exact putSel_on (e := (0, 11, v204)) 0 rfl rfl (hon 0 (by kernel_rfl)) rfl
      have e12 : a.tmps[12]? = some (.int .i64 ji20) := by rw [ha]; exact (putSel_off rfl).trans rfl
      replace ha := aZ_ ha
      have BK196 := aZ_ Q_BK196
      have BK197 := aZ_ (Q_BK197 (hoff 8 (by kernel_rfl)))
      have HB := aZ_ Q_HB
      have HO205 := aZ_ (Q_HO205 (hon 0 (by kernel_rfl)))
      have HA_HO205 := aZ_ (Q_HA_HO205 (hon 0 (by kernel_rfl)))
      obtain ⟨c_, hv_⟩ := HA_HO205.out
      rw [hv_] at e11
      refine value_ (w1 := w') (v := .pointer (some (adz_v204.add ((ji20)).toNat))) (by rfl) rfl ?_ ?_
      ·
       go_simp
       (try simp only [i64_w])
       try rfl
      refine hK.out _ _ ⟨v204, adz_v204, (.pointer (some (adz_v204.add ((ji20)).toNat))), (by rw [ha.out]; exact putSel_upk 1 hb_ rfl rfl rfl), Q_BK196, Q_BK197, Q_HB, Q_HO205, Q_HA_HO205, fun h0_ => absurd ((hoff 8 (by kernel_rfl)).symm.trans h0_) (by decide), fun _ => rfl⟩
     refine steps_cons ?_ ?_
     ·
      rintro b a w' ⟨v204, adz_v204, m2_, ha, Q_BK196, Q_BK197, Q_HB, Q_HO205, Q_HA_HO205, Q_BK197_e8, Q_X2_⟩ hb_ hon hoff
      refine ⟨_, rfl, fun K hK => ?_⟩
      have e13 : a.tmps[13]? = some (m2_) := by rw [ha]; exact putSel_on (e := (2, 13, m2_)) 1 rfl rfl (hon 2 (by kernel_rfl)) rfl
      rw [Q_X2_ (hon 2 (by kernel_rfl))] at e13
      replace ha := aZ_ ha
      have BK196 := aZ_ Q_BK196
      have BK197 := aZ_ (Q_BK197 (hoff 8 (by kernel_rfl)))
      have HB := aZ_ Q_HB
      have HO205 := aZ_ (Q_HO205 (hon 0 (by kernel_rfl)))
      have HA_HO205 := aZ_ (Q_HA_HO205 (hon 0 (by kernel_rfl)))
      obtain ⟨c_, hv_⟩ := HA_HO205.out
      have hF_ := HO205.out
      rw [hv_] at hF_
      obtain ⟨ad_, ea_, hx_⟩ := Kd.at_string (Kd.R_reads' hF_).2.2 (ji20) (of_eq_true pi206) (of_eq_true qi206)
      cases ea_
      refine value_ (w1 := w') (v := .string (rdOf ByteArray.empty y203 (ji20))) (by rfl) rfl ?_ ?_
      ·
       go_simp
       (try simp only [i64_w])
       try rfl
      refine hK.out _ _ ⟨v204, adz_v204, m2_, (by rw [ha.out]; exact putSel_upk 2 hb_ rfl rfl rfl), Q_BK196, Q_BK197, Q_HB, Q_HO205, Q_HA_HO205, fun h0_ => absurd ((hoff 8 (by kernel_rfl)).symm.trans h0_) (by decide), Q_X2_⟩
     refine steps_cons ?_ ?_
     ·
      rintro b a w' ⟨v204, adz_v204, m2_, ha, Q_BK196, Q_BK197, Q_HB, Q_HO205, Q_HA_HO205, Q_BK197_e8, Q_X2_⟩ hb_ hon hoff
      refine ⟨_, rfl, fun K hK => ?_⟩
      have e15 : a.tmps[15]? = some (.pointer (some ⟨gb196, 2, none⟩)) := by rw [ha]; exact (putSel_off rfl).trans rfl
      replace ha := aZ_ ha
      have BK196 := aZ_ Q_BK196
      have BK197 := aZ_ (Q_BK197 (hoff 8 (by kernel_rfl)))
      have HB := aZ_ Q_HB
      have hc0_ : w'.cell? ⟨gb196, 0, none⟩ = some (.int .i64 a0_0) := (blk_cell BK196.out 0).trans rfl
      have hc1_ : w'.cell? ⟨gb196, 1, none⟩ = some (.int .i64 a0_1) := (blk_cell BK196.out 1).trans rfl
      have hc2_ : w'.cell? ⟨gb196, 2, none⟩ = some (.slice A0_2 l0_2.length c0_2) := (blk_cell BK196.out 2).trans rfl
      have hc3_ : w'.cell? ⟨gb196, 3, none⟩ = some (.slice A0_3 l0_3.length c0_3) := (blk_cell BK196.out 3).trans rfl
      refine value_ (w1 := w') (v := .slice A0_2 l0_2.length c0_2) (by rfl) rfl ?_ ?_
      ·
       go_simp
       (try simp only [i64_w])
       try rfl
      refine hK.out _ _ ⟨v204, adz_v204, m2_, (by rw [ha.out]; exact putSel_upk 3 hb_ rfl rfl rfl), Q_BK196, Q_BK197, Q_HB, Q_HO205, Q_HA_HO205, fun h0_ => absurd ((hoff 8 (by kernel_rfl)).symm.trans h0_) (by decide), Q_X2_⟩
     refine steps_cons ?_ ?_
     ·
      rintro b a w' ⟨v204, adz_v204, m2_, ha, Q_BK196, Q_BK197, Q_HB, Q_HO205, Q_HA_HO205, Q_BK197_e8, Q_X2_⟩ hb_ hon hoff
      refine ⟨_, rfl, fun K hK => ?_⟩
      have e16 : a.tmps[16]? = some (.slice A0_2 l0_2.length c0_2) := by rw [ha]; exact putSel_on (e := (5, 16, .slice A0_2 l0_2.length c0_2)) 3 rfl rfl (hon 5 (by kernel_rfl)) rfl
      replace ha := aZ_ ha
      have BK196 := aZ_ Q_BK196
      have BK197 := aZ_ (Q_BK197 (hoff 8 (by kernel_rfl)))
      have HB := aZ_ Q_HB
      refine goes_ Try.func82 (by kernel_rfl) rfl #[.slice A0_2 l0_2.length c0_2] (by rfl) rfl rfl (by first | (simp only [List.map_toArray, List.map_cons, List.map_nil, Act.eval, Array.getD_eq_getD_getElem?, Option.getD_some, e16]; done) | (simp only [List.map_toArray, List.map_cons, List.map_nil, Act.eval, Array.getD_eq_getD_getElem?, Option.getD_some, e16]; rfl)) ?_
      with_reducible refine (chancellaw3_id.calls k _ _ l0_2 t207 _ ?side1 ?side2 A23.out).mono ?_
      (case side1 => exact kC (Kd.C_below HR0_2.out HB.out))
      (case side2 => exact HC0_2.out)
      rintro e w29 ⟨rfl, hb⟩
      refine ⟨_, rfl, ?_⟩
      have n0_ := aZ_ (blk_below (g := gb196) (o := .cells #[.int .i64 a0_0, .int .i64 a0_1, .slice A0_2 l0_2.length c0_2, .slice A0_3 l0_3.length c0_3] 51 (0, 0)) (bk BK196) hb)
      have n1_ := aZ_ (blk_below (g := gb197) (o := .cells #[.string (⟨#[]⟩ : ByteArray), .string (⟨#[]⟩ : ByteArray)] 28 (0, 0)) (bk BK197) hb)
      have n2_ := aZ_ (below_step (bl2 HB GE196 GE197) hb)
      have z_HO205 := fun (h0_ : b 0 = true) => (show Kd.R Kd.string 9 w29 w.heap.size (fun _ => True) v204 y203 from by first | exact (Kd.R_below (by (with_reducible repeat (first | apply Kd.R_alloc | apply Kd.R_drewN | apply Kd.R_drew)); exact (Q_HO205 h0_)) hb) | exact Kd.R_mono (Kd.R_below (by (with_reducible repeat (first | apply Kd.R_alloc | apply Kd.R_drewN | apply Kd.R_drew)); exact (Q_HO205 h0_)) hb) (fun _ h_ => by first | trivial | exact h_ | exact h_.1))
      clear BK196
      clear BK197
      clear HB
      have BK196 := n0_
      have BK197 := n1_
      have HB := n2_
      clear n0_ n1_ n2_
      (try clear hb)
      (try clear hb2)
      (try clear hk)
      (try clear hi)
      refine hK.out _ _ ⟨v204, adz_v204, m2_, (by rw [ha.out]; exact putSel_upk 4 hb_ rfl rfl rfl), (bk BK196), fun _ => (bk BK197), (bl2 HB GE196 GE197), z_HO205, Q_HA_HO205, fun h0_ => absurd ((hoff 8 (by kernel_rfl)).symm.trans h0_) (by decide), Q_X2_⟩
     refine steps_cons ?_ ?_
     ·
      rintro b a w' ⟨v204, adz_v204, m2_, ha, Q_BK196, Q_BK197, Q_HB, Q_HO205, Q_HA_HO205, Q_BK197_e8, Q_X2_⟩ hb_ hon hoff
      refine ⟨_, rfl, fun K hK => ?_⟩
      have e14 : a.tmps[14]? = some (.string (rdOf ByteArray.empty y203 (ji20))) := by rw [ha]; exact putSel_on (e := (3, 14, .string (rdOf ByteArray.empty y203 (ji20)))) 2 rfl rfl (hon 3 (by kernel_rfl)) rfl
      have e17 : a.tmps[17]? = some (.string t207) := by rw [ha]; exact putSel_on (e := (6, 17, .string t207)) 4 rfl rfl (hon 6 (by kernel_rfl)) rfl
      replace ha := aZ_ ha
      have BK196 := aZ_ Q_BK196
      have BK197 := aZ_ (Q_BK197 (hoff 8 (by kernel_rfl)))
      have HB := aZ_ Q_HB
      have HO205 := aZ_ (Q_HO205 (hon 0 (by kernel_rfl)))
      have HA_HO205 := aZ_ (Q_HA_HO205 (hon 0 (by kernel_rfl)))
      refine value_ (w1 := w') (v := .agg #[.string (rdOf ByteArray.empty y203 (ji20)), .string t207]) (by rfl) rfl ?_ ?_
      ·
       go_simp
       (try simp only [i64_w])
       try rfl
      refine hK.out _ _ ⟨v204, adz_v204, m2_, (by rw [ha.out]; exact putSel_upk 5 hb_ rfl rfl rfl), Q_BK196, Q_BK197, Q_HB, Q_HO205, Q_HA_HO205, fun h0_ => absurd ((hoff 8 (by kernel_rfl)).symm.trans h0_) (by decide), Q_X2_⟩
     refine steps_cons ?_ ?_
     ·
      rintro b a w' ⟨v204, adz_v204, m2_, ha, Q_BK196, Q_BK197, Q_HB, Q_HO205, Q_HA_HO205, Q_BK197_e8, Q_X2_⟩ hb_ hon hoff
      refine ⟨_, rfl, fun K hK => ?_⟩
      have e2 : a.tmps[2]? = some (.pointer (some ⟨gb197, 0, none⟩)) := by rw [ha]; exact (putSel_off rfl).trans rfl
      have e18 : a.tmps[18]? = some (.agg #[.string (rdOf ByteArray.empty y203 (ji20)), .string t207]) := by rw [ha]; exact putSel_on (e := (7, 18, .agg #[.string (rdOf ByteArray.empty y203 (ji20)), .string t207])) 5 rfl rfl (hon 7 (by kernel_rfl)) rfl
      replace ha := aZ_ ha
      have BK196 := aZ_ Q_BK196
      have BK197 := aZ_ (Q_BK197 hb_)
      have HB := aZ_ Q_HB
      have HO205 := aZ_ (Q_HO205 (hon 0 (by kernel_rfl)))
      have HA_HO205 := aZ_ (Q_HA_HO205 (hon 0 (by kernel_rfl)))
      obtain ⟨co34, eo34⟩ := HA_HO205.out
      clear HA_HO205
      subst eo34
      have hs35 : w'.cell? ⟨gb197, 0, none⟩ = some (.string (⟨#[]⟩ : ByteArray)) := (blk_cell BK197.out 0).trans rfl
      have hfs35 := blk_frozen BK197.out 0
      have hns35_0 := NB196_197.out
      have hms35_0 := NB197_196.out
      have hs36 : w'.cell? ⟨gb197, 1, none⟩ = some (.string (⟨#[]⟩ : ByteArray)) := (blk_cell BK197.out 1).trans rfl
      have hfs36 := blk_frozen BK197.out 1
      have hns36_0 := NB196_197.out
      have hms36_0 := NB197_196.out
      refine skip_ (w1 := ?_) (by rfl) rfl ?_ ?_
      rotate_left
      ·
       go_simp
       rfl
      refine hK.out _ _ ⟨.slice (some adz_v204) y203.length co34, adz_v204, m2_, (by rw [ha.out]; exact putSel_none (v := undef) rfl), (by (with_reducible repeat (first | refine blk_drewN ?_ _ | refine blk_drew ?_ | refine blk_alloc ?_ _)); refine blk_far ?_ NB196_197.out _; (with_reducible repeat (first | refine blk_drewN ?_ _ | refine blk_drew ?_ | refine blk_alloc ?_ _)); refine blk_far ?_ NB196_197.out _; (with_reducible repeat (first | refine blk_drewN ?_ _ | refine blk_drew ?_ | refine blk_alloc ?_ _)); exact BK196.out), fun h0_ => absurd ((up_self b 8).symm.trans h0_) (by decide), (bl2 HB GE196 GE197), fun _ => (by (with_reducible repeat (first | apply Kd.R_alloc | apply Kd.R_drewN | apply Kd.R_drew)); exact Kd.R_mono (Kd.R_far (p := ⟨gb197, 1, none⟩) (Kd.R_far (p := ⟨gb197, 0, none⟩) (Kd.R_types HO205.out BK197.out (by decide)) (fun _ hk => hk.2) (.string (rdOf ByteArray.empty y203 (ji20)))) (fun _ hk => hk.2) (.string t207)) (fun _ hk => trivial)), fun _ => ⟨_, rfl⟩, fun _ => (by (with_reducible repeat (first | refine blk_drewN ?_ _ | refine blk_drew ?_ | refine blk_alloc ?_ _)); refine blk_put (cs := #[.string (rdOf ByteArray.empty y203 (ji20)), .string (⟨#[]⟩ : ByteArray)]) ?_ 1 _ rfl; (with_reducible repeat (first | refine blk_drewN ?_ _ | refine blk_drew ?_ | refine blk_alloc ?_ _)); refine blk_put (cs := #[.string (⟨#[]⟩ : ByteArray), .string (⟨#[]⟩ : ByteArray)]) ?_ 0 _ rfl; (with_reducible repeat (first | refine blk_drewN ?_ _ | refine blk_drew ?_ | refine blk_alloc ?_ _)); exact BK197.out), Q_X2_⟩
     exact steps_nil
    rintro b a w35 hall ⟨v204, adz_v204, m2_, ha, Q_BK196, Q_BK197, Q_HB, Q_HO205, Q_HA_HO205, Q_BK197_e8, Q_X2_⟩
    clear BK196 BK197 HB
    have hb0_ := hall 0 (by kernel_rfl)
    have hb2_ := hall 2 (by kernel_rfl)
    have hb3_ := hall 3 (by kernel_rfl)
    have hb5_ := hall 5 (by kernel_rfl)
    have hb6_ := hall 6 (by kernel_rfl)
    have hb7_ := hall 7 (by kernel_rfl)
    have hb8_ := hall 8 (by kernel_rfl)
    subst ha
    obtain rfl := Q_X2_ hb2_
    simp only [putSel, hb0_, hb2_, hb3_, hb5_, hb6_, hb7_, hb8_, if_true, Act.put, List.setIfInBounds_toArray, List.set_cons_zero, List.set_cons_succ]
    have BK196 := aZ_ Q_BK196
    clear Q_BK196
    clear Q_BK197
    have HB := aZ_ Q_HB
    clear Q_HB
    have HO205 := aZ_ (Q_HO205 hb0_)
    clear Q_HO205
    have HA_HO205 := aZ_ (Q_HA_HO205 hb0_)
    clear Q_HA_HO205
    have BK197 := aZ_ (Q_BK197_e8 hb8_)
    clear Q_BK197_e8
    clear hall hb0_ hb2_ hb3_ hb5_ hb6_ hb7_ hb8_
    obtain ⟨co36, eo36⟩ := HA_HO205.out
    clear HA_HO205
    subst eo36
    try go_wp2
    refine bodyPost_ret (results_cell_row rfl _ _ gb197 28 #[.string (rdOf ByteArray.empty y203 (ji20)), .string t207] (0, 0) _ rfl (bk BK197) Try.underlying28 rfl (by kernel_rfl)) rfl ?_
    exact ⟨by first | rfl | (simp [errW_none, errW_some] <;> rfl) | (simp only [← hji20]; first | rfl | (simp [errW_none, errW_some] <;> rfl)) | (simp [*, errW_none, errW_some] <;> rfl), bl2 HB GE196 GE197⟩
   ·
    rw [if_neg c22] at H
    exact absurd H (by simp)
  ·
   rw [if_neg c21] at H
   exact absurd H (by simp)

/-! ### chancellaw3_Plain: function 59 -/
def chancellaw3_Plain.f (k : Nat) (a0_0 : Int) (a0_1 : Int) (l0_2 : List Int) (l0_3 : List (S51)) (a1 : Int) : Option (Int × Bool × Int × ByteArray × ByteArray × ByteArray × (List (S55))) := if a1 = 1 then (some (1, ((Int.tmod a0_1 2) == 0), 0, (⟨#[]⟩ : ByteArray), (⟨#[]⟩ : ByteArray), (⟨#[]⟩ : ByteArray), ([] : List (S55)))) else (if a1 = 2 then (some (2, false, a0_1, (⟨#[]⟩ : ByteArray), (⟨#[]⟩ : ByteArray), (⟨#[]⟩ : ByteArray), ([] : List (S55)))) else (if a1 = 3 then ((chancellaw3_id.f k l0_2).bind fun t210 => (some (3, false, 0, t210, (⟨#[]⟩ : ByteArray), (⟨#[]⟩ : ByteArray), ([] : List (S55))))) else ((chancellaw3_Uid.f k a0_0 a0_1 l0_2 l0_3).bind fun bt211 => (some (4, false, 0, (⟨#[]⟩ : ByteArray), bt211.1, bt211.2, ([] : List (S55)))))))
theorem chancellaw3_Plain.mono : ∀ a0 a1 a2 a3 a4 k, LeO (chancellaw3_Plain.f k a0 a1 a2 a3 a4) (chancellaw3_Plain.f (k + 1) a0 a1 a2 a3 a4) := by
 intro a0 a1 a2 a3 a4 k
 unfold chancellaw3_Plain.f
 repeat' first
   | (with_reducible exact chancellaw3_Uid.mono _ _ _ _ _)
   | (with_reducible exact chancellaw3_id.mono _ _)
   | (with_reducible exact LeO.refl _)
   | (with_reducible exact LeO.none _)
   | (with_reducible refine LeO.ite ?_ ?_)
   | (with_reducible refine LeO.bind ?_ (fun _ => ?_))
   | exact chancellaw3_Uid.mono _ _ _ _ _
   | exact chancellaw3_id.mono _ _
   | exact LeO.none _
   | refine LeO.ite ?_ ?_
   | refine LeO.bind ?_ (fun _ => ?_)
set_option maxHeartbeats 8000000 in
set_option maxRecDepth 100000 in
theorem chancellaw3_Plain.calls (k : Nat) (a0_0 : Int) (a0_1 : Int) (A0_2 : Option Addr) (c0_2 : Nat) (l0_2 : List Int) (A0_3 : Option Addr) (c0_3 : Nat) (l0_3 : List (S51)) (a1 : Int) (r1 : Int) (r2 : Bool) (r3 : Int) (r4 : ByteArray) (r5 : ByteArray) (r6 : ByteArray) (r7 : List (S55)) (w : World) (hr0_2 : Kd.C (Kd.int .i64) w A0_2 l0_2.length l0_2) (hc0_2 : l0_2.length ≤ c0_2) (hr0_3 : Kd.C k51 w A0_3 l0_3.length l0_3) (hc0_3 : l0_3.length ≤ c0_3) (h : chancellaw3_Plain.f k a0_0 a0_1 l0_2 l0_3 a1 = some (r1, r2, r3, r4, r5, r6, r7)) :
  Calls Try.prog 59 #[.agg #[.int .i64 a0_0, .int .i64 a0_1, .slice A0_2 l0_2.length c0_2, .slice A0_3 l0_3.length c0_3], .int .i64 a1] w fun e w' => ∃ v6_ : Value, e = .returned (.agg #[.int .i64 r1, .bool r2, .int .i64 r3, .string r4, .string r5, .string r6, v6_]) ∧ Kd.R k55 55 w' w.heap.size (fun _ => True) v6_ r7 ∧ Below w.heap.size w w' := by
 have hu51 := Try.underlying51
 have hu55 := Try.underlying55
 have HR0_2 := aZ_ hr0_2
 have HC0_2 := aZ_ hc0_2
 clear hr0_2 hc0_2
 have HR0_3 := aZ_ hr0_3
 have HC0_3 := aZ_ hc0_3
 clear hr0_3 hc0_3
 have HB := aZ_ (Below.refl w.heap.size w)
 have H : (if a1 = 1 then (some (1, ((Int.tmod a0_1 2) == 0), 0, (⟨#[]⟩ : ByteArray), (⟨#[]⟩ : ByteArray), (⟨#[]⟩ : ByteArray), ([] : List (S55)))) else (if a1 = 2 then (some (2, false, a0_1, (⟨#[]⟩ : ByteArray), (⟨#[]⟩ : ByteArray), (⟨#[]⟩ : ByteArray), ([] : List (S55)))) else (if a1 = 3 then ((chancellaw3_id.f k l0_2).bind fun t210 => (some (3, false, 0, t210, (⟨#[]⟩ : ByteArray), (⟨#[]⟩ : ByteArray), ([] : List (S55))))) else ((chancellaw3_Uid.f k a0_0 a0_1 l0_2 l0_3).bind fun bt211 => (some (4, false, 0, (⟨#[]⟩ : ByteArray), bt211.1, bt211.2, ([] : List (S55)))))))) = some (r1, r2, r3, r4, r5, r6, r7) := h
 clear h
 by_cases c3 : a1 = 1
 ·
  rw [if_pos c3] at H
  have c3b0 : (a1 == 1) = true := beq_iff_eq.mpr c3
  have c3b1 : (a1 != 1) = false := bne_eq_false_iff_eq.mpr c3
  clear c3
  simp only [Option.some.injEq, Prod.mk.injEq] at H
  obtain ⟨rfl, rfl, rfl, rfl, rfl, rfl, rfl⟩ := H
  go_enter Try.func59, Try.ntmps59
  go_wp2_with (first | ((with_reducible refine gate_dst (N := 2) rfl ?_); refine bxE 2 #[.int .i64 a0_0, .int .i64 a0_1, .slice A0_2 l0_2.length c0_2, .slice A0_3 l0_3.length c0_3] 51 ?_; intro gb208 hg w4 hbox hb; have BK208 := aZ_ (hbox); have GW208 := aZ_ ((by rw [hg]; exact (below_size (bl HB)) : w.heap.size ≤ gb208)); have GE208 := aZ_ ((by rw [hg]; exact (below_size (bl HB)) : w.heap.size ≤ gb208)); replace HB := aZ_ (below_step (bl HB) hb); clear hb hbox hg) | ((with_reducible refine gate_dst (N := 4) rfl ?_); refine bxE 4 #[.int .i64 0, .bool false, .int .i64 0, .string (⟨#[]⟩ : ByteArray), .string (⟨#[]⟩ : ByteArray), .string (⟨#[]⟩ : ByteArray), .slice none 0 0] 55 ?_; intro gb209 hg w5 hbox hb; have BK209 := aZ_ (hbox); have GW209 := aZ_ ((by rw [hg]; exact (below_size (bl1 HB GE208)) : w.heap.size ≤ gb209)); have GE209 := aZ_ ((by rw [hg]; exact (below_size (bl1 HB GE208)) : w.heap.size ≤ gb209)); replace HB := aZ_ (below_step (bl1 HB GE208) hb); have NB208_209 := aZ_ ((by rw [hg]; exact Nat.ne_of_lt (blk_lt (g := gb208) (o := .cells #[.int .i64 a0_0, .int .i64 a0_1, .slice A0_2 l0_2.length c0_2, .slice A0_3 l0_3.length c0_3] 51 (0, 0)) (bk BK208)) : gb208 ≠ gb209)); have NB209_208 := aZ_ ((by rw [hg]; exact Nat.ne_of_gt (blk_lt (g := gb208) (o := .cells #[.int .i64 a0_0, .int .i64 a0_1, .slice A0_2 l0_2.length c0_2, .slice A0_3 l0_3.length c0_3] 51 (0, 0)) (bk BK208)) : gb209 ≠ gb208)); replace BK208 := aZ_ (blk_below (g := gb208) (o := .cells #[.int .i64 a0_0, .int .i64 a0_1, .slice A0_2 l0_2.length c0_2, .slice A0_3 l0_3.length c0_3] 51 (0, 0)) (bk BK208) hb); clear hb hbox hg; have hnb6 := NB208_209.out; have hnc6 := NB209_208.out; obtain ⟨hcz7_0, hcz7_1, hcz7_2, hcz7_3, hfz7_0, hfz7_1, hfz7_2, hfz7_3⟩ := bc4 BK208; obtain ⟨hcz8_0, hcz8_1, hcz8_2, hcz8_3, hcz8_4, hcz8_5, hcz8_6, hfz8_0, hfz8_1, hfz8_2, hfz8_3, hfz8_4, hfz8_5, hfz8_6⟩ := bc7 BK209))
  refine bodyPost_ret (results_cell_row rfl _ _ gb209 55 #[.int .i64 1, .bool ((Int.tmod a0_1 2) == 0), .int .i64 0, .string (⟨#[]⟩ : ByteArray), .string (⟨#[]⟩ : ByteArray), .string (⟨#[]⟩ : ByteArray), .slice none 0 0] (0, 0) _ rfl (by (with_reducible repeat (first | refine blk_drewN ?_ _ | refine blk_drew ?_ | refine blk_alloc ?_ _)); refine blk_put (cs := #[.int .i64 1, .bool ((Int.tmod a0_1 2) == 0), .int .i64 0, .string (⟨#[]⟩ : ByteArray), .string (⟨#[]⟩ : ByteArray), .string (⟨#[]⟩ : ByteArray), .slice none 0 0]) ?_ 6 _ rfl; (with_reducible repeat (first | refine blk_drewN ?_ _ | refine blk_drew ?_ | refine blk_alloc ?_ _)); refine blk_put (cs := #[.int .i64 1, .bool ((Int.tmod a0_1 2) == 0), .int .i64 0, .string (⟨#[]⟩ : ByteArray), .string (⟨#[]⟩ : ByteArray), .string (⟨#[]⟩ : ByteArray), .slice none 0 0]) ?_ 5 _ rfl; (with_reducible repeat (first | refine blk_drewN ?_ _ | refine blk_drew ?_ | refine blk_alloc ?_ _)); refine blk_put (cs := #[.int .i64 1, .bool ((Int.tmod a0_1 2) == 0), .int .i64 0, .string (⟨#[]⟩ : ByteArray), .string (⟨#[]⟩ : ByteArray), .string (⟨#[]⟩ : ByteArray), .slice none 0 0]) ?_ 4 _ rfl; (with_reducible repeat (first | refine blk_drewN ?_ _ | refine blk_drew ?_ | refine blk_alloc ?_ _)); refine blk_put (cs := #[.int .i64 1, .bool ((Int.tmod a0_1 2) == 0), .int .i64 0, .string (⟨#[]⟩ : ByteArray), .string (⟨#[]⟩ : ByteArray), .string (⟨#[]⟩ : ByteArray), .slice none 0 0]) ?_ 3 _ rfl; (with_reducible repeat (first | refine blk_drewN ?_ _ | refine blk_drew ?_ | refine blk_alloc ?_ _)); refine blk_put (cs := #[.int .i64 1, .bool ((Int.tmod a0_1 2) == 0), .int .i64 0, .string (⟨#[]⟩ : ByteArray), .string (⟨#[]⟩ : ByteArray), .string (⟨#[]⟩ : ByteArray), .slice none 0 0]) ?_ 2 _ rfl; (with_reducible repeat (first | refine blk_drewN ?_ _ | refine blk_drew ?_ | refine blk_alloc ?_ _)); refine blk_put (cs := #[.int .i64 1, .bool false, .int .i64 0, .string (⟨#[]⟩ : ByteArray), .string (⟨#[]⟩ : ByteArray), .string (⟨#[]⟩ : ByteArray), .slice none 0 0]) ?_ 1 _ rfl; (with_reducible repeat (first | refine blk_drewN ?_ _ | refine blk_drew ?_ | refine blk_alloc ?_ _)); refine blk_put (cs := #[.int .i64 0, .bool false, .int .i64 0, .string (⟨#[]⟩ : ByteArray), .string (⟨#[]⟩ : ByteArray), .string (⟨#[]⟩ : ByteArray), .slice none 0 0]) ?_ 0 _ rfl; (with_reducible repeat (first | refine blk_drewN ?_ _ | refine blk_drew ?_ | refine blk_alloc ?_ _)); exact BK209.out) Try.underlying55 rfl (by kernel_rfl)) rfl ?_
  exact ⟨_, by first | rfl | (simp [errW_none, errW_some] <;> rfl) | (simp [*, errW_none, errW_some] <;> rfl), by first | exact Kd.R_nil _ _ _ _ _ | exact Kd.N_nil _ _ _ _ _ | exact Kd.V_nil _ _ _ _ _ | exact Kd.Q_nil _ _ _ _ _ | exact Kd.S_nil _ _ _ _ _, bl2 HB GE208 GE209⟩
 ·
  rw [if_neg c3] at H
  have c3b0 : (a1 == 1) = false := beq_eq_false_iff_ne.mpr c3
  have c3b1 : (a1 != 1) = true := bne_iff_ne.mpr c3
  by_cases c9 : a1 = 2
  ·
   rw [if_pos c9] at H
   have c9b0 : (a1 == 2) = true := beq_iff_eq.mpr c9
   have c9b1 : (a1 != 2) = false := bne_eq_false_iff_eq.mpr c9
   clear c9
   simp only [Option.some.injEq, Prod.mk.injEq] at H
   obtain ⟨rfl, rfl, rfl, rfl, rfl, rfl, rfl⟩ := H
   go_enter Try.func59, Try.ntmps59
   go_wp2_with (first | ((with_reducible refine gate_dst (N := 2) rfl ?_); refine bxE 2 #[.int .i64 a0_0, .int .i64 a0_1, .slice A0_2 l0_2.length c0_2, .slice A0_3 l0_3.length c0_3] 51 ?_; intro gb208 hg w10 hbox hb; have BK208 := aZ_ (hbox); have GW208 := aZ_ ((by rw [hg]; exact (below_size (bl HB)) : w.heap.size ≤ gb208)); have GE208 := aZ_ ((by rw [hg]; exact (below_size (bl HB)) : w.heap.size ≤ gb208)); replace HB := aZ_ (below_step (bl HB) hb); clear hb hbox hg) | ((with_reducible refine gate_dst (N := 4) rfl ?_); refine bxE 4 #[.int .i64 0, .bool false, .int .i64 0, .string (⟨#[]⟩ : ByteArray), .string (⟨#[]⟩ : ByteArray), .string (⟨#[]⟩ : ByteArray), .slice none 0 0] 55 ?_; intro gb209 hg w11 hbox hb; have BK209 := aZ_ (hbox); have GW209 := aZ_ ((by rw [hg]; exact (below_size (bl1 HB GE208)) : w.heap.size ≤ gb209)); have GE209 := aZ_ ((by rw [hg]; exact (below_size (bl1 HB GE208)) : w.heap.size ≤ gb209)); replace HB := aZ_ (below_step (bl1 HB GE208) hb); have NB208_209 := aZ_ ((by rw [hg]; exact Nat.ne_of_lt (blk_lt (g := gb208) (o := .cells #[.int .i64 a0_0, .int .i64 a0_1, .slice A0_2 l0_2.length c0_2, .slice A0_3 l0_3.length c0_3] 51 (0, 0)) (bk BK208)) : gb208 ≠ gb209)); have NB209_208 := aZ_ ((by rw [hg]; exact Nat.ne_of_gt (blk_lt (g := gb208) (o := .cells #[.int .i64 a0_0, .int .i64 a0_1, .slice A0_2 l0_2.length c0_2, .slice A0_3 l0_3.length c0_3] 51 (0, 0)) (bk BK208)) : gb209 ≠ gb208)); replace BK208 := aZ_ (blk_below (g := gb208) (o := .cells #[.int .i64 a0_0, .int .i64 a0_1, .slice A0_2 l0_2.length c0_2, .slice A0_3 l0_3.length c0_3] 51 (0, 0)) (bk BK208) hb); clear hb hbox hg; have hnb12 := NB208_209.out; have hnc12 := NB209_208.out; obtain ⟨hcz13_0, hcz13_1, hcz13_2, hcz13_3, hfz13_0, hfz13_1, hfz13_2, hfz13_3⟩ := bc4 BK208; obtain ⟨hcz14_0, hcz14_1, hcz14_2, hcz14_3, hcz14_4, hcz14_5, hcz14_6, hfz14_0, hfz14_1, hfz14_2, hfz14_3, hfz14_4, hfz14_5, hfz14_6⟩ := bc7 BK209))
   refine bodyPost_ret (results_cell_row rfl _ _ gb209 55 #[.int .i64 2, .bool false, .int .i64 a0_1, .string (⟨#[]⟩ : ByteArray), .string (⟨#[]⟩ : ByteArray), .string (⟨#[]⟩ : ByteArray), .slice none 0 0] (0, 0) _ rfl (by (with_reducible repeat (first | refine blk_drewN ?_ _ | refine blk_drew ?_ | refine blk_alloc ?_ _)); refine blk_put (cs := #[.int .i64 2, .bool false, .int .i64 a0_1, .string (⟨#[]⟩ : ByteArray), .string (⟨#[]⟩ : ByteArray), .string (⟨#[]⟩ : ByteArray), .slice none 0 0]) ?_ 6 _ rfl; (with_reducible repeat (first | refine blk_drewN ?_ _ | refine blk_drew ?_ | refine blk_alloc ?_ _)); refine blk_put (cs := #[.int .i64 2, .bool false, .int .i64 a0_1, .string (⟨#[]⟩ : ByteArray), .string (⟨#[]⟩ : ByteArray), .string (⟨#[]⟩ : ByteArray), .slice none 0 0]) ?_ 5 _ rfl; (with_reducible repeat (first | refine blk_drewN ?_ _ | refine blk_drew ?_ | refine blk_alloc ?_ _)); refine blk_put (cs := #[.int .i64 2, .bool false, .int .i64 a0_1, .string (⟨#[]⟩ : ByteArray), .string (⟨#[]⟩ : ByteArray), .string (⟨#[]⟩ : ByteArray), .slice none 0 0]) ?_ 4 _ rfl; (with_reducible repeat (first | refine blk_drewN ?_ _ | refine blk_drew ?_ | refine blk_alloc ?_ _)); refine blk_put (cs := #[.int .i64 2, .bool false, .int .i64 a0_1, .string (⟨#[]⟩ : ByteArray), .string (⟨#[]⟩ : ByteArray), .string (⟨#[]⟩ : ByteArray), .slice none 0 0]) ?_ 3 _ rfl; (with_reducible repeat (first | refine blk_drewN ?_ _ | refine blk_drew ?_ | refine blk_alloc ?_ _)); refine blk_put (cs := #[.int .i64 2, .bool false, .int .i64 0, .string (⟨#[]⟩ : ByteArray), .string (⟨#[]⟩ : ByteArray), .string (⟨#[]⟩ : ByteArray), .slice none 0 0]) ?_ 2 _ rfl; (with_reducible repeat (first | refine blk_drewN ?_ _ | refine blk_drew ?_ | refine blk_alloc ?_ _)); refine blk_put (cs := #[.int .i64 2, .bool false, .int .i64 0, .string (⟨#[]⟩ : ByteArray), .string (⟨#[]⟩ : ByteArray), .string (⟨#[]⟩ : ByteArray), .slice none 0 0]) ?_ 1 _ rfl; (with_reducible repeat (first | refine blk_drewN ?_ _ | refine blk_drew ?_ | refine blk_alloc ?_ _)); refine blk_put (cs := #[.int .i64 0, .bool false, .int .i64 0, .string (⟨#[]⟩ : ByteArray), .string (⟨#[]⟩ : ByteArray), .string (⟨#[]⟩ : ByteArray), .slice none 0 0]) ?_ 0 _ rfl; (with_reducible repeat (first | refine blk_drewN ?_ _ | refine blk_drew ?_ | refine blk_alloc ?_ _)); exact BK209.out) Try.underlying55 rfl (by kernel_rfl)) rfl ?_
   exact ⟨_, by first | rfl | (simp [errW_none, errW_some] <;> rfl) | (simp [*, errW_none, errW_some] <;> rfl), by first | exact Kd.R_nil _ _ _ _ _ | exact Kd.N_nil _ _ _ _ _ | exact Kd.V_nil _ _ _ _ _ | exact Kd.Q_nil _ _ _ _ _ | exact Kd.S_nil _ _ _ _ _, bl2 HB GE208 GE209⟩
  ·
   rw [if_neg c9] at H
   have c9b0 : (a1 == 2) = false := beq_eq_false_iff_ne.mpr c9
   have c9b1 : (a1 != 2) = true := bne_iff_ne.mpr c9
   by_cases c15 : a1 = 3
   ·
    rw [if_pos c15] at H
    have c15b0 : (a1 == 3) = true := beq_iff_eq.mpr c15
    have c15b1 : (a1 != 3) = false := bne_eq_false_iff_eq.mpr c15
    clear c15
    replace H := Option.bind_eq_some_iff.mp H
    obtain ⟨t210, A160, H⟩ := H
    replace H : (some (3, false, 0, t210, (⟨#[]⟩ : ByteArray), (⟨#[]⟩ : ByteArray), ([] : List (S55)))) = some (r1, r2, r3, r4, r5, r6, r7) := H
    have A16 := aZ_ A160
    clear A160
    simp only [Option.some.injEq, Prod.mk.injEq] at H
    obtain ⟨rfl, rfl, rfl, rfl, rfl, rfl, rfl⟩ := H
    go_enter Try.func59, Try.ntmps59
    go_wp2_with (first | ((with_reducible refine gate_dst (N := 2) rfl ?_); refine bxE 2 #[.int .i64 a0_0, .int .i64 a0_1, .slice A0_2 l0_2.length c0_2, .slice A0_3 l0_3.length c0_3] 51 ?_; intro gb208 hg w17 hbox hb; have BK208 := aZ_ (hbox); have GW208 := aZ_ ((by rw [hg]; exact (below_size (bl HB)) : w.heap.size ≤ gb208)); have GE208 := aZ_ ((by rw [hg]; exact (below_size (bl HB)) : w.heap.size ≤ gb208)); replace HB := aZ_ (below_step (bl HB) hb); clear hb hbox hg) | ((with_reducible refine gate_dst (N := 4) rfl ?_); refine bxE 4 #[.int .i64 0, .bool false, .int .i64 0, .string (⟨#[]⟩ : ByteArray), .string (⟨#[]⟩ : ByteArray), .string (⟨#[]⟩ : ByteArray), .slice none 0 0] 55 ?_; intro gb209 hg w18 hbox hb; have BK209 := aZ_ (hbox); have GW209 := aZ_ ((by rw [hg]; exact (below_size (bl1 HB GE208)) : w.heap.size ≤ gb209)); have GE209 := aZ_ ((by rw [hg]; exact (below_size (bl1 HB GE208)) : w.heap.size ≤ gb209)); replace HB := aZ_ (below_step (bl1 HB GE208) hb); have NB208_209 := aZ_ ((by rw [hg]; exact Nat.ne_of_lt (blk_lt (g := gb208) (o := .cells #[.int .i64 a0_0, .int .i64 a0_1, .slice A0_2 l0_2.length c0_2, .slice A0_3 l0_3.length c0_3] 51 (0, 0)) (bk BK208)) : gb208 ≠ gb209)); have NB209_208 := aZ_ ((by rw [hg]; exact Nat.ne_of_gt (blk_lt (g := gb208) (o := .cells #[.int .i64 a0_0, .int .i64 a0_1, .slice A0_2 l0_2.length c0_2, .slice A0_3 l0_3.length c0_3] 51 (0, 0)) (bk BK208)) : gb209 ≠ gb208)); replace BK208 := aZ_ (blk_below (g := gb208) (o := .cells #[.int .i64 a0_0, .int .i64 a0_1, .slice A0_2 l0_2.length c0_2, .slice A0_3 l0_3.length c0_3] 51 (0, 0)) (bk BK208) hb); clear hb hbox hg; have hnb19 := NB208_209.out; have hnc19 := NB209_208.out; obtain ⟨hcz20_0, hcz20_1, hcz20_2, hcz20_3, hfz20_0, hfz20_1, hfz20_2, hfz20_3⟩ := bc4 BK208) | ((with_reducible refine gate_callee (f := 82) rfl ?_); refine goesL_ (some 22) rfl rfl Try.func82 (by kernel_rfl) rfl #[.slice A0_2 l0_2.length c0_2] rfl gm_ ?_; (with_reducible refine (chancellaw3_id.calls k _ _ l0_2 t210 _ ?side1 ?side2 A16.out).mono ?_); (case side1 => exact kC (Kd.C_below HR0_2.out HB.out)); (case side2 => exact HC0_2.out); rintro e w21 ⟨rfl, hb⟩; refine ⟨_, rfl, ?_⟩; replace BK208 := aZ_ (blk_below (g := gb208) (o := .cells #[.int .i64 a0_0, .int .i64 a0_1, .slice A0_2 l0_2.length c0_2, .slice A0_3 l0_3.length c0_3] 51 (0, 0)) (bk BK208) hb); replace BK209 := aZ_ (blk_below (g := gb209) (o := .cells #[.int .i64 0, .bool false, .int .i64 0, .string (⟨#[]⟩ : ByteArray), .string (⟨#[]⟩ : ByteArray), .string (⟨#[]⟩ : ByteArray), .slice none 0 0] 55 (0, 0)) (bk BK209) hb); replace HB := aZ_ (below_step (bl2 HB GE208 GE209) hb); (try clear hb); (try clear hb2); (try clear hk); (try clear hi); obtain ⟨hcz22_0, hcz22_1, hcz22_2, hcz22_3, hcz22_4, hcz22_5, hcz22_6, hfz22_0, hfz22_1, hfz22_2, hfz22_3, hfz22_4, hfz22_5, hfz22_6⟩ := bc7 BK209))
    refine bodyPost_ret (results_cell_row rfl _ _ gb209 55 #[.int .i64 3, .bool false, .int .i64 0, .string t210, .string (⟨#[]⟩ : ByteArray), .string (⟨#[]⟩ : ByteArray), .slice none 0 0] (0, 0) _ rfl (by (with_reducible repeat (first | refine blk_drewN ?_ _ | refine blk_drew ?_ | refine blk_alloc ?_ _)); refine blk_put (cs := #[.int .i64 3, .bool false, .int .i64 0, .string t210, .string (⟨#[]⟩ : ByteArray), .string (⟨#[]⟩ : ByteArray), .slice none 0 0]) ?_ 6 _ rfl; (with_reducible repeat (first | refine blk_drewN ?_ _ | refine blk_drew ?_ | refine blk_alloc ?_ _)); refine blk_put (cs := #[.int .i64 3, .bool false, .int .i64 0, .string t210, .string (⟨#[]⟩ : ByteArray), .string (⟨#[]⟩ : ByteArray), .slice none 0 0]) ?_ 5 _ rfl; (with_reducible repeat (first | refine blk_drewN ?_ _ | refine blk_drew ?_ | refine blk_alloc ?_ _)); refine blk_put (cs := #[.int .i64 3, .bool false, .int .i64 0, .string t210, .string (⟨#[]⟩ : ByteArray), .string (⟨#[]⟩ : ByteArray), .slice none 0 0]) ?_ 4 _ rfl; (with_reducible repeat (first | refine blk_drewN ?_ _ | refine blk_drew ?_ | refine blk_alloc ?_ _)); refine blk_put (cs := #[.int .i64 3, .bool false, .int .i64 0, .string (⟨#[]⟩ : ByteArray), .string (⟨#[]⟩ : ByteArray), .string (⟨#[]⟩ : ByteArray), .slice none 0 0]) ?_ 3 _ rfl; (with_reducible repeat (first | refine blk_drewN ?_ _ | refine blk_drew ?_ | refine blk_alloc ?_ _)); refine blk_put (cs := #[.int .i64 3, .bool false, .int .i64 0, .string (⟨#[]⟩ : ByteArray), .string (⟨#[]⟩ : ByteArray), .string (⟨#[]⟩ : ByteArray), .slice none 0 0]) ?_ 2 _ rfl; (with_reducible repeat (first | refine blk_drewN ?_ _ | refine blk_drew ?_ | refine blk_alloc ?_ _)); refine blk_put (cs := #[.int .i64 3, .bool false, .int .i64 0, .string (⟨#[]⟩ : ByteArray), .string (⟨#[]⟩ : ByteArray), .string (⟨#[]⟩ : ByteArray), .slice none 0 0]) ?_ 1 _ rfl; (with_reducible repeat (first | refine blk_drewN ?_ _ | refine blk_drew ?_ | refine blk_alloc ?_ _)); refine blk_put (cs := #[.int .i64 0, .bool false, .int .i64 0, .string (⟨#[]⟩ : ByteArray), .string (⟨#[]⟩ : ByteArray), .string (⟨#[]⟩ : ByteArray), .slice none 0 0]) ?_ 0 _ rfl; (with_reducible repeat (first | refine blk_drewN ?_ _ | refine blk_drew ?_ | refine blk_alloc ?_ _)); exact BK209.out) Try.underlying55 rfl (by kernel_rfl)) rfl ?_
    exact ⟨_, by first | rfl | (simp [errW_none, errW_some] <;> rfl) | (simp [*, errW_none, errW_some] <;> rfl), by first | exact Kd.R_nil _ _ _ _ _ | exact Kd.N_nil _ _ _ _ _ | exact Kd.V_nil _ _ _ _ _ | exact Kd.Q_nil _ _ _ _ _ | exact Kd.S_nil _ _ _ _ _, bl2 HB GE208 GE209⟩
   ·
    rw [if_neg c15] at H
    have c15b0 : (a1 == 3) = false := beq_eq_false_iff_ne.mpr c15
    have c15b1 : (a1 != 3) = true := bne_iff_ne.mpr c15
    replace H := Option.bind_eq_some_iff.mp H
    obtain ⟨⟨t211, t212⟩, A230, H⟩ := H
    replace H : (some (4, false, 0, (⟨#[]⟩ : ByteArray), t211, t212, ([] : List (S55)))) = some (r1, r2, r3, r4, r5, r6, r7) := H
    have A23 := aZ_ A230
    clear A230
    simp only [Option.some.injEq, Prod.mk.injEq] at H
    obtain ⟨rfl, rfl, rfl, rfl, rfl, rfl, rfl⟩ := H
    go_enter Try.func59, Try.ntmps59
    go_wp2_with (first | ((with_reducible refine gate_dst (N := 2) rfl ?_); refine bxE 2 #[.int .i64 a0_0, .int .i64 a0_1, .slice A0_2 l0_2.length c0_2, .slice A0_3 l0_3.length c0_3] 51 ?_; intro gb208 hg w24 hbox hb; have BK208 := aZ_ (hbox); have GW208 := aZ_ ((by rw [hg]; exact (below_size (bl HB)) : w.heap.size ≤ gb208)); have GE208 := aZ_ ((by rw [hg]; exact (below_size (bl HB)) : w.heap.size ≤ gb208)); replace HB := aZ_ (below_step (bl HB) hb); clear hb hbox hg) | ((with_reducible refine gate_dst (N := 4) rfl ?_); refine bxE 4 #[.int .i64 0, .bool false, .int .i64 0, .string (⟨#[]⟩ : ByteArray), .string (⟨#[]⟩ : ByteArray), .string (⟨#[]⟩ : ByteArray), .slice none 0 0] 55 ?_; intro gb209 hg w25 hbox hb; have BK209 := aZ_ (hbox); have GW209 := aZ_ ((by rw [hg]; exact (below_size (bl1 HB GE208)) : w.heap.size ≤ gb209)); have GE209 := aZ_ ((by rw [hg]; exact (below_size (bl1 HB GE208)) : w.heap.size ≤ gb209)); replace HB := aZ_ (below_step (bl1 HB GE208) hb); have NB208_209 := aZ_ ((by rw [hg]; exact Nat.ne_of_lt (blk_lt (g := gb208) (o := .cells #[.int .i64 a0_0, .int .i64 a0_1, .slice A0_2 l0_2.length c0_2, .slice A0_3 l0_3.length c0_3] 51 (0, 0)) (bk BK208)) : gb208 ≠ gb209)); have NB209_208 := aZ_ ((by rw [hg]; exact Nat.ne_of_gt (blk_lt (g := gb208) (o := .cells #[.int .i64 a0_0, .int .i64 a0_1, .slice A0_2 l0_2.length c0_2, .slice A0_3 l0_3.length c0_3] 51 (0, 0)) (bk BK208)) : gb209 ≠ gb208)); replace BK208 := aZ_ (blk_below (g := gb208) (o := .cells #[.int .i64 a0_0, .int .i64 a0_1, .slice A0_2 l0_2.length c0_2, .slice A0_3 l0_3.length c0_3] 51 (0, 0)) (bk BK208) hb); clear hb hbox hg; have hnb26 := NB208_209.out; have hnc26 := NB209_208.out; obtain ⟨hcz27_0, hcz27_1, hcz27_2, hcz27_3, hfz27_0, hfz27_1, hfz27_2, hfz27_3⟩ := bc4 BK208) | ((with_reducible refine gate_callee (f := 83) rfl ?_); refine goesL_ (some 25) rfl rfl Try.func83 (by kernel_rfl) rfl #[.agg #[.int .i64 a0_0, .int .i64 a0_1, .slice A0_2 l0_2.length c0_2, .slice A0_3 l0_3.length c0_3]] rfl gm_ ?_; (with_reducible refine (chancellaw3_Uid.calls k a0_0 a0_1 _ _ l0_2 _ _ l0_3 t211 t212 _ ?side1 ?side2 ?side3 ?side4 A23.out).mono ?_); (case side1 => exact kC (Kd.C_below HR0_2.out HB.out)); (case side2 => exact HC0_2.out); (case side3 => exact kC (Kd.C_below HR0_3.out HB.out)); (case side4 => exact HC0_3.out); rintro e w28 ⟨rfl, hb⟩; refine ⟨_, rfl, ?_⟩; replace BK208 := aZ_ (blk_below (g := gb208) (o := .cells #[.int .i64 a0_0, .int .i64 a0_1, .slice A0_2 l0_2.length c0_2, .slice A0_3 l0_3.length c0_3] 51 (0, 0)) (bk BK208) hb); replace BK209 := aZ_ (blk_below (g := gb209) (o := .cells #[.int .i64 0, .bool false, .int .i64 0, .string (⟨#[]⟩ : ByteArray), .string (⟨#[]⟩ : ByteArray), .string (⟨#[]⟩ : ByteArray), .slice none 0 0] 55 (0, 0)) (bk BK209) hb); replace HB := aZ_ (below_step (bl2 HB GE208 GE209) hb); (try clear hb); (try clear hb2); (try clear hk); (try clear hi); obtain ⟨hcz29_0, hcz29_1, hcz29_2, hcz29_3, hcz29_4, hcz29_5, hcz29_6, hfz29_0, hfz29_1, hfz29_2, hfz29_3, hfz29_4, hfz29_5, hfz29_6⟩ := bc7 BK209))
    refine bodyPost_ret (results_cell_row rfl _ _ gb209 55 #[.int .i64 4, .bool false, .int .i64 0, .string (⟨#[]⟩ : ByteArray), .string t211, .string t212, .slice none 0 0] (0, 0) _ rfl (by (with_reducible repeat (first | refine blk_drewN ?_ _ | refine blk_drew ?_ | refine blk_alloc ?_ _)); refine blk_put (cs := #[.int .i64 4, .bool false, .int .i64 0, .string (⟨#[]⟩ : ByteArray), .string t211, .string t212, .slice none 0 0]) ?_ 6 _ rfl; (with_reducible repeat (first | refine blk_drewN ?_ _ | refine blk_drew ?_ | refine blk_alloc ?_ _)); refine blk_put (cs := #[.int .i64 4, .bool false, .int .i64 0, .string (⟨#[]⟩ : ByteArray), .string t211, .string (⟨#[]⟩ : ByteArray), .slice none 0 0]) ?_ 5 _ rfl; (with_reducible repeat (first | refine blk_drewN ?_ _ | refine blk_drew ?_ | refine blk_alloc ?_ _)); refine blk_put (cs := #[.int .i64 4, .bool false, .int .i64 0, .string (⟨#[]⟩ : ByteArray), .string (⟨#[]⟩ : ByteArray), .string (⟨#[]⟩ : ByteArray), .slice none 0 0]) ?_ 4 _ rfl; (with_reducible repeat (first | refine blk_drewN ?_ _ | refine blk_drew ?_ | refine blk_alloc ?_ _)); refine blk_put (cs := #[.int .i64 4, .bool false, .int .i64 0, .string (⟨#[]⟩ : ByteArray), .string (⟨#[]⟩ : ByteArray), .string (⟨#[]⟩ : ByteArray), .slice none 0 0]) ?_ 3 _ rfl; (with_reducible repeat (first | refine blk_drewN ?_ _ | refine blk_drew ?_ | refine blk_alloc ?_ _)); refine blk_put (cs := #[.int .i64 4, .bool false, .int .i64 0, .string (⟨#[]⟩ : ByteArray), .string (⟨#[]⟩ : ByteArray), .string (⟨#[]⟩ : ByteArray), .slice none 0 0]) ?_ 2 _ rfl; (with_reducible repeat (first | refine blk_drewN ?_ _ | refine blk_drew ?_ | refine blk_alloc ?_ _)); refine blk_put (cs := #[.int .i64 4, .bool false, .int .i64 0, .string (⟨#[]⟩ : ByteArray), .string (⟨#[]⟩ : ByteArray), .string (⟨#[]⟩ : ByteArray), .slice none 0 0]) ?_ 1 _ rfl; (with_reducible repeat (first | refine blk_drewN ?_ _ | refine blk_drew ?_ | refine blk_alloc ?_ _)); refine blk_put (cs := #[.int .i64 0, .bool false, .int .i64 0, .string (⟨#[]⟩ : ByteArray), .string (⟨#[]⟩ : ByteArray), .string (⟨#[]⟩ : ByteArray), .slice none 0 0]) ?_ 0 _ rfl; (with_reducible repeat (first | refine blk_drewN ?_ _ | refine blk_drew ?_ | refine blk_alloc ?_ _)); exact BK209.out) Try.underlying55 rfl (by kernel_rfl)) rfl ?_
    exact ⟨_, by first | rfl | (simp [errW_none, errW_some] <;> rfl) | (simp [*, errW_none, errW_some] <;> rfl), by first | exact Kd.R_nil _ _ _ _ _ | exact Kd.N_nil _ _ _ _ _ | exact Kd.V_nil _ _ _ _ _ | exact Kd.Q_nil _ _ _ _ _ | exact Kd.S_nil _ _ _ _ _, bl2 HB GE208 GE209⟩

end Go.Proofs.Ytelibndkkokadaa.GB
