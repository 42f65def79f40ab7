import Derived.Test.YtelibndkkokadaaGB0
import Derived.Test.YtelibndkkokadaaEV9h
import Derived.Test.YtelibndkkokadaaSqz
import Derived.Test.YtelibndkkokadaaA5
import Derived.Deep.RegionWith
import Derived.Deep.CutRange
namespace Go.Proofs.Ytelibndkkokadaa.EV
open Go.RowKit Go.Proofs.YtelibndkkokadaaW.PrintWords Go.Proofs.YtelibndkkokadaaW.PrintLast Go.Proofs.Ytelibndkkokadaa.HandV Go.Proofs.YtelibndkkokadaaW.PrintMore
open Go.Proofs.Ytelibndkkokadaa.GB
attribute [local go_sem] max2_int min2_int max_two min_two max_three min_three max_four min_four   -- for this text's walks alone
set_option linter.unusedVariables false
set_option linter.unusedSimpArgs false
-- IMPORT .EV9h
-- IMPORT .Sqz
-- IMPORT .A5
-- IMPORT Derived.Deep.RegionWith
-- IMPORT Derived.Deep.CutRange
open GA (okU)
set_option maxRecDepth 100000 in
set_option maxHeartbeats 16000000 in
theorem vars2 (l : List Int) (A : Option Addr) (c : Nat) (n : Int) (w : World) (hc : l.length ≤ c) (hC : (Kd.int .i64).C w A l.length l) (hr : (if Int.tmod n 3 < 0 then Int.tmod n 3 + 3 else Int.tmod n 3) = 2) : Calls Try.prog 12 #[.slice A l.length c, .int .i64 n] w fun e w' => e = .returned (.bool true) ∧ Below w.heap.size w w' := by
  have HW : Aside0 (∀ W, Calls Try.prog 42 #[.int .i64 n, .int .i64 3] W fun e w' => e = .returned (.int .i64 2) ∧ w' = W) := ⟨fun W => hr ▸ within13_calls n W⟩
  have HC := Aside0.mk hC
  have Hc := Aside0.mk hc
  clear hr hC hc
  go_enter Try.func12, Try.ntmps12
  go_upto_region 4 with (first | (go_at_call 41; refine (known13_calls _).mono ?_; rintro e w1 ⟨rfl, hb⟩; have HB1 := Aside0.mk hb; clear hb) | (go_at_call 44; refine (request_calls l A c _ Hc.out (Kd.C_below HC.out HB1.out)).mono ?_; rintro e w2 ⟨p0, p1, p2, p3, p4, p5, rfl, ho0, ho1, ho2, hb⟩; have HO0 := Aside0.mk ho0; have HO1 := Aside0.mk ho1; have HO2 := Aside0.mk ho2; have HB2 := Aside0.mk (below_step HB1.out hb); clear hb ho0 ho1 ho2))
  have HB : Aside0 (Below w.heap.size w (w2.alloc (.cells #[.string p0, .string p1, .string p2, .string p3, .string p4, .string p5] 77))) := ⟨below_alloc HB2.out _⟩
  have HQ : Aside0 ((w2.alloc (.cells #[.string p0, .string p1, .string p2, .string p3, .string p4, .string p5] 77)).heap[w2.heap.size]? = some (.cells #[.string p0, .string p1, .string p2, .string p3, .string p4, .string p5] 77 (0, 0))) := ⟨blk_new _ _⟩
  generalize w2.alloc (.cells #[.string p0, .string p1, .string p2, .string p3, .string p4, .string p5] 77) = w3 at HB HQ ⊢
  generalize w2.heap.size = g5 at HQ ⊢
  clear HB1 HB2
  replace HB : Aside0 (Below w.heap.size w w3.drew) := ⟨below_drew1 HB.out⟩
  replace HQ : Aside0 (w3.drew.heap[g5]? = some (.cells #[.string p0, .string p1, .string p2, .string p3, .string p4, .string p5] 77 (0, 0))) := ⟨HQ.out⟩
  refine start_ (n := 13) (S := fun w' => True) (ds := []) #[false, false, false, false, false, false, false, false, false, false, false, false, false] (by kernel_rfl) rfl rfl trivial (fun hHeld => ?_)
  refine with_tabW rw4_tab rw4_bits (fun HT_ HW_ => ?_)
  generalize w3.drew = wd at HB HQ hHeld ⊢
  have KB_ := Aside0.mk (Below.refl wd.heap.size wd)
  refine inv_at [0, 1, 2, 3, 4, 5, 6, 7, 8, 9, 10, 11, 12] (fun a0_ b a w' => ∃ (gs : Nat) (g6 : Nat) (m6_ : Value) (m9_ : Value) (m11_ : Value), a = putSel a0_ b [(0, 16, .pointer (some ⟨g5, 0, none⟩)), (1, 17, .agg #[.string p0, .string p1]), (2, 18, .pointer (some ⟨g5, 2, none⟩)), (3, 19, .agg #[.string p2, .string p3]), (4, 20, .pointer (some ⟨g5, 4, none⟩)), (5, 21, .agg #[.string p4, .string p5]), (6, 22, m6_), (7, 23, .int .i64 n), (8, 24, .int .i64 2), (9, 25, m9_), (10, 26, .agg #[.string p4, .string p5]), (11, 6, m11_)] ∧ (Below wd.heap.size wd w') ∧ (b 6 = true → wd.heap.size ≤ gs) ∧ (b 6 = true → gs < w'.heap.size) ∧ (b 6 = true → w'.heap[gs]? = some (.cells #[.string p0, .string p1, .string p2, .string p3, .string p4, .string p5] 28 (0, 0))) ∧ (b 11 = true → wd.heap.size ≤ g6) ∧ (b 11 = true → g6 < w'.heap.size) ∧ (b 11 = true → b 12 = false → w'.heap[g6]? = some (.cells #[.string ⟨#[]⟩, .string ⟨#[]⟩] 28 (0, 0))) ∧ (b 12 = true → w'.heap[g6]? = some (.cells #[.string p4, .string p5] 28 (0, 0))) ∧ (b 11 = true → b 6 = true → g6 ≠ gs) ∧ (b 6 = true → (m6_ : Value) = .slice (some ⟨gs, 0, none⟩) 3 3) ∧ (b 9 = true → (m9_ : Value) = .pointer (some ⟨gs, 4, none⟩)) ∧ (b 11 = true → (m11_ : Value) = .pointer (some ⟨g6, 0, none⟩))) HT_.out HW_.out (by kernel_rfl) (by kernel_rfl) ?_ ?_ ?_
  · exact ⟨0, 0, .bool false, .bool false, .bool false, by simp only [putSel, Bool.false_eq_true, if_false], KB_.out, fun h_ => absurd h_ (by decide), fun h_ => absurd h_ (by decide), fun h_ => absurd h_ (by decide), fun h_ => absurd h_ (by decide), fun h_ => absurd h_ (by decide), fun h_ => absurd h_ (by decide), fun h_ => absurd h_ (by decide), fun h_ => absurd h_ (by decide), fun h_ => absurd h_ (by decide), fun h_ => absurd h_ (by decide), fun h_ => absurd h_ (by decide)⟩
  · skip
    clear KB_
    refine steps_cons ?_ ?_
    · rintro b a w' ⟨gs, g6, m6_, m9_, m11_, ha, Q_KB_, Q_GE_gs, Q_LT_gs, Q_Z_gs, Q_GE_g6, Q_LT_g6, Q_Z_g6, Q_F_g6, Q_NE_g6_gs, Q_X6_, Q_X9_, Q_X11_⟩ hb_ hon hoff
      refine ⟨_, rfl, fun K hK => ?_⟩
      have e5 : a.tmps[5]? = some (.pointer (some ⟨g5, 0, none⟩)) := by rw [ha]; exact (putSel_off rfl).trans rfl
      replace ha := Aside0.mk ha
      have KB_ := Aside0.mk Q_KB_
      refine value_ (w1 := w') (v := .pointer (some ⟨g5, 0, none⟩)) (by rfl) rfl ?_ ?_
      · go_simp
        (try simp only [i64_w])
        try rfl
      refine hK.out _ _ ⟨gs, g6, m6_, m9_, m11_, (by rw [ha.out]; exact putSel_upk 0 hb_ rfl rfl rfl), Q_KB_, fun h0_ => absurd ((hoff 6 (by kernel_rfl)).symm.trans h0_) (by decide), fun h0_ => absurd ((hoff 6 (by kernel_rfl)).symm.trans h0_) (by decide), fun h0_ => absurd ((hoff 6 (by kernel_rfl)).symm.trans h0_) (by decide), Q_GE_g6, Q_LT_g6, Q_Z_g6, fun h0_ => absurd ((hoff 12 (by kernel_rfl)).symm.trans h0_) (by decide), fun _ h1_ => absurd ((hoff 6 (by kernel_rfl)).symm.trans h1_) (by decide), fun h0_ => absurd ((hoff 6 (by kernel_rfl)).symm.trans h0_) (by decide), fun h0_ => absurd ((hoff 9 (by kernel_rfl)).symm.trans h0_) (by decide), Q_X11_⟩
    refine steps_cons ?_ ?_
    · rintro b a w' ⟨gs, g6, m6_, m9_, m11_, ha, Q_KB_, Q_GE_gs, Q_LT_gs, Q_Z_gs, Q_GE_g6, Q_LT_g6, Q_Z_g6, Q_F_g6, Q_NE_g6_gs, Q_X6_, Q_X9_, Q_X11_⟩ hb_ hon hoff
      refine ⟨_, rfl, fun K hK => ?_⟩
      have e16 : a.tmps[16]? = some (.pointer (some ⟨g5, 0, none⟩)) := by rw [ha]; exact putSel_on (e := (0, 16, .pointer (some ⟨g5, 0, none⟩))) 0 rfl rfl (hon 0 (by kernel_rfl)) rfl
      replace ha := Aside0.mk ha
      have KB_ := Aside0.mk Q_KB_
      have c0_ : w'.cell? ⟨g5, 0, none⟩ = some (.string p0) := (blk_cell (blk_below HQ.out KB_.out) 0).trans rfl
      have c1_ : w'.cell? ⟨g5, 1, none⟩ = some (.string p1) := (blk_cell (blk_below HQ.out KB_.out) 1).trans rfl
      refine value_ (w1 := w') (v := .agg #[.string p0, .string p1]) (by rfl) rfl ?_ ?_
      · go_simp
        (try simp only [i64_w])
        try rfl
      refine hK.out _ _ ⟨gs, g6, m6_, m9_, m11_, (by rw [ha.out]; exact putSel_upk 1 hb_ rfl rfl rfl), Q_KB_, fun h0_ => absurd ((hoff 6 (by kernel_rfl)).symm.trans h0_) (by decide), fun h0_ => absurd ((hoff 6 (by kernel_rfl)).symm.trans h0_) (by decide), fun h0_ => absurd ((hoff 6 (by kernel_rfl)).symm.trans h0_) (by decide), Q_GE_g6, Q_LT_g6, Q_Z_g6, fun h0_ => absurd ((hoff 12 (by kernel_rfl)).symm.trans h0_) (by decide), fun _ h1_ => absurd ((hoff 6 (by kernel_rfl)).symm.trans h1_) (by decide), fun h0_ => absurd ((hoff 6 (by kernel_rfl)).symm.trans h0_) (by decide), fun h0_ => absurd ((hoff 9 (by kernel_rfl)).symm.trans h0_) (by decide), Q_X11_⟩
    refine steps_cons ?_ ?_
    · rintro b a w' ⟨gs, g6, m6_, m9_, m11_, ha, Q_KB_, Q_GE_gs, Q_LT_gs, Q_Z_gs, Q_GE_g6, Q_LT_g6, Q_Z_g6, Q_F_g6, Q_NE_g6_gs, Q_X6_, Q_X9_, Q_X11_⟩ hb_ hon hoff
      refine ⟨_, rfl, fun K hK => ?_⟩
      have e5 : a.tmps[5]? = some (.pointer (some ⟨g5, 0, none⟩)) := by rw [ha]; exact (putSel_off rfl).trans rfl
      replace ha := Aside0.mk ha
      have KB_ := Aside0.mk Q_KB_
      refine value_ (w1 := w') (v := .pointer (some ⟨g5, 2, none⟩)) (by rfl) rfl ?_ ?_
      · go_simp
        (try simp only [i64_w])
        try rfl
      refine hK.out _ _ ⟨gs, g6, m6_, m9_, m11_, (by rw [ha.out]; exact putSel_upk 2 hb_ rfl rfl rfl), Q_KB_, fun h0_ => absurd ((hoff 6 (by kernel_rfl)).symm.trans h0_) (by decide), fun h0_ => absurd ((hoff 6 (by kernel_rfl)).symm.trans h0_) (by decide), fun h0_ => absurd ((hoff 6 (by kernel_rfl)).symm.trans h0_) (by decide), Q_GE_g6, Q_LT_g6, Q_Z_g6, fun h0_ => absurd ((hoff 12 (by kernel_rfl)).symm.trans h0_) (by decide), fun _ h1_ => absurd ((hoff 6 (by kernel_rfl)).symm.trans h1_) (by decide), fun h0_ => absurd ((hoff 6 (by kernel_rfl)).symm.trans h0_) (by decide), fun h0_ => absurd ((hoff 9 (by kernel_rfl)).symm.trans h0_) (by decide), Q_X11_⟩
    refine steps_cons ?_ ?_
    · rintro b a w' ⟨gs, g6, m6_, m9_, m11_, ha, Q_KB_, Q_GE_gs, Q_LT_gs, Q_Z_gs, Q_GE_g6, Q_LT_g6, Q_Z_g6, Q_F_g6, Q_NE_g6_gs, Q_X6_, Q_X9_, Q_X11_⟩ hb_ hon hoff
      refine ⟨_, rfl, fun K hK => ?_⟩
      have e18 : a.tmps[18]? = some (.pointer (some ⟨g5, 2, none⟩)) := by rw [ha]; exact putSel_on (e := (2, 18, .pointer (some ⟨g5, 2, none⟩))) 2 rfl rfl (hon 2 (by kernel_rfl)) rfl
      replace ha := Aside0.mk ha
      have KB_ := Aside0.mk Q_KB_
      have c0_ : w'.cell? ⟨g5, 2, none⟩ = some (.string p2) := (blk_cell (blk_below HQ.out KB_.out) 2).trans rfl
      have c1_ : w'.cell? ⟨g5, 3, none⟩ = some (.string p3) := (blk_cell (blk_below HQ.out KB_.out) 3).trans rfl
      refine value_ (w1 := w') (v := .agg #[.string p2, .string p3]) (by rfl) rfl ?_ ?_
      · go_simp
        (try simp only [i64_w])
        try rfl
      refine hK.out _ _ ⟨gs, g6, m6_, m9_, m11_, (by rw [ha.out]; exact putSel_upk 3 hb_ rfl rfl rfl), Q_KB_, fun h0_ => absurd ((hoff 6 (by kernel_rfl)).symm.trans h0_) (by decide), fun h0_ => absurd ((hoff 6 (by kernel_rfl)).symm.trans h0_) (by decide), fun h0_ => absurd ((hoff 6 (by kernel_rfl)).symm.trans h0_) (by decide), Q_GE_g6, Q_LT_g6, Q_Z_g6, fun h0_ => absurd ((hoff 12 (by kernel_rfl)).symm.trans h0_) (by decide), fun _ h1_ => absurd ((hoff 6 (by kernel_rfl)).symm.trans h1_) (by decide), fun h0_ => absurd ((hoff 6 (by kernel_rfl)).symm.trans h0_) (by decide), fun h0_ => absurd ((hoff 9 (by kernel_rfl)).symm.trans h0_) (by decide), Q_X11_⟩
    refine steps_cons ?_ ?_
    · rintro b a w' ⟨gs, g6, m6_, m9_, m11_, ha, Q_KB_, Q_GE_gs, Q_LT_gs, Q_Z_gs, Q_GE_g6, Q_LT_g6, Q_Z_g6, Q_F_g6, Q_NE_g6_gs, Q_X6_, Q_X9_, Q_X11_⟩ hb_ hon hoff
      refine ⟨_, rfl, fun K hK => ?_⟩
      have e5 : a.tmps[5]? = some (.pointer (some ⟨g5, 0, none⟩)) := by rw [ha]; exact (putSel_off rfl).trans rfl
      replace ha := Aside0.mk ha
      have KB_ := Aside0.mk Q_KB_
      refine value_ (w1 := w') (v := .pointer (some ⟨g5, 4, none⟩)) (by rfl) rfl ?_ ?_
      · go_simp
        (try simp only [i64_w])
        try rfl
      refine hK.out _ _ ⟨gs, g6, m6_, m9_, m11_, (by rw [ha.out]; exact putSel_upk 4 hb_ rfl rfl rfl), Q_KB_, fun h0_ => absurd ((hoff 6 (by kernel_rfl)).symm.trans h0_) (by decide), fun h0_ => absurd ((hoff 6 (by kernel_rfl)).symm.trans h0_) (by decide), fun h0_ => absurd ((hoff 6 (by kernel_rfl)).symm.trans h0_) (by decide), Q_GE_g6, Q_LT_g6, Q_Z_g6, fun h0_ => absurd ((hoff 12 (by kernel_rfl)).symm.trans h0_) (by decide), fun _ h1_ => absurd ((hoff 6 (by kernel_rfl)).symm.trans h1_) (by decide), fun h0_ => absurd ((hoff 6 (by kernel_rfl)).symm.trans h0_) (by decide), fun h0_ => absurd ((hoff 9 (by kernel_rfl)).symm.trans h0_) (by decide), Q_X11_⟩
    refine steps_cons ?_ ?_
    · rintro b a w' ⟨gs, g6, m6_, m9_, m11_, ha, Q_KB_, Q_GE_gs, Q_LT_gs, Q_Z_gs, Q_GE_g6, Q_LT_g6, Q_Z_g6, Q_F_g6, Q_NE_g6_gs, Q_X6_, Q_X9_, Q_X11_⟩ hb_ hon hoff
      refine ⟨_, rfl, fun K hK => ?_⟩
      have e20 : a.tmps[20]? = some (.pointer (some ⟨g5, 4, none⟩)) := by rw [ha]; exact putSel_on (e := (4, 20, .pointer (some ⟨g5, 4, none⟩))) 4 rfl rfl (hon 4 (by kernel_rfl)) rfl
      replace ha := Aside0.mk ha
      have KB_ := Aside0.mk Q_KB_
      have c0_ : w'.cell? ⟨g5, 4, none⟩ = some (.string p4) := (blk_cell (blk_below HQ.out KB_.out) 4).trans rfl
      have c1_ : w'.cell? ⟨g5, 5, none⟩ = some (.string p5) := (blk_cell (blk_below HQ.out KB_.out) 5).trans rfl
      refine value_ (w1 := w') (v := .agg #[.string p4, .string p5]) (by rfl) rfl ?_ ?_
      · go_simp
        (try simp only [i64_w])
        try rfl
      refine hK.out _ _ ⟨gs, g6, m6_, m9_, m11_, (by rw [ha.out]; exact putSel_upk 5 hb_ rfl rfl rfl), Q_KB_, fun h0_ => absurd ((hoff 6 (by kernel_rfl)).symm.trans h0_) (by decide), fun h0_ => absurd ((hoff 6 (by kernel_rfl)).symm.trans h0_) (by decide), fun h0_ => absurd ((hoff 6 (by kernel_rfl)).symm.trans h0_) (by decide), Q_GE_g6, Q_LT_g6, Q_Z_g6, fun h0_ => absurd ((hoff 12 (by kernel_rfl)).symm.trans h0_) (by decide), fun _ h1_ => absurd ((hoff 6 (by kernel_rfl)).symm.trans h1_) (by decide), fun h0_ => absurd ((hoff 6 (by kernel_rfl)).symm.trans h0_) (by decide), fun h0_ => absurd ((hoff 9 (by kernel_rfl)).symm.trans h0_) (by decide), Q_X11_⟩
    refine steps_cons ?_ ?_
    · rintro b a w' ⟨gs, g6, m6_, m9_, m11_, ha, Q_KB_, Q_GE_gs, Q_LT_gs, Q_Z_gs, Q_GE_g6, Q_LT_g6, Q_Z_g6, Q_F_g6, Q_NE_g6_gs, Q_X6_, Q_X9_, Q_X11_⟩ hb_ hon hoff
      refine ⟨_, rfl, fun K hK => ?_⟩
      have e17 : a.tmps[17]? = some (.agg #[.string p0, .string p1]) := by rw [ha]; exact putSel_on (e := (1, 17, .agg #[.string p0, .string p1])) 1 rfl rfl (hon 1 (by kernel_rfl)) rfl
      have e19 : a.tmps[19]? = some (.agg #[.string p2, .string p3]) := by rw [ha]; exact putSel_on (e := (3, 19, .agg #[.string p2, .string p3])) 3 rfl rfl (hon 3 (by kernel_rfl)) rfl
      have e21 : a.tmps[21]? = some (.agg #[.string p4, .string p5]) := by rw [ha]; exact putSel_on (e := (5, 21, .agg #[.string p4, .string p5])) 5 rfl rfl (hon 5 (by kernel_rfl)) rfl
      replace ha := Aside0.mk ha
      have KB_ := Aside0.mk Q_KB_
      refine value_ (w1 := w'.alloc (.cells #[.string p0, .string p1, .string p2, .string p3, .string p4, .string p5] 28)) (v := .slice (some ⟨w'.heap.size, 0, none⟩) 3 3) (by rfl) rfl ?_ ?_
      · first | (go_simp; done) | (go_simp; rfl) | (go_simp; constructor <;> rfl)
      have hbox : (w'.alloc (.cells #[.string p0, .string p1, .string p2, .string p3, .string p4, .string p5] 28)).heap[w'.heap.size]? = some (.cells #[.string p0, .string p1, .string p2, .string p3, .string p4, .string p5] 28 (0, 0)) := blk_new _ _
      have hb : Below w'.heap.size w' (w'.alloc (.cells #[.string p0, .string p1, .string p2, .string p3, .string p4, .string p5] 28)) := below_alloc (Below.refl _ _) _
      generalize w'.alloc (.cells #[.string p0, .string p1, .string p2, .string p3, .string p4, .string p5] 28) = w2 at hbox hb ⊢
      have hle := (KB_.out).size
      generalize hg_ : w'.heap.size = gsn at hbox hle ⊢
      have z_NE_g6_gs := fun (h0_ : up b 6 11 = true) (h1_ : up b 6 6 = true) => (show g6 ≠ gsn from by have h_ := Q_LT_g6 h0_; omega)
      refine hK.out _ _ ⟨gsn, g6, (.slice (some ⟨gsn, 0, none⟩) 3 3), m9_, m11_, (by rw [ha.out]; exact putSel_upk 6 hb_ rfl rfl rfl), below_step KB_.out hb, fun _ => hle, fun _ => blk_lt hbox, fun _ => hbox, Q_GE_g6, fun h0_ => Nat.lt_of_lt_of_le (Q_LT_g6 h0_) hb.size, fun h0_ h1_ => blk_below (Q_Z_g6 h0_ h1_) hb, fun h0_ => absurd ((hoff 12 (by kernel_rfl)).symm.trans h0_) (by decide), fun _ _ => z_NE_g6_gs (by assumption) (by assumption), fun _ => rfl, fun h0_ => absurd ((hoff 9 (by kernel_rfl)).symm.trans h0_) (by decide), Q_X11_⟩
    refine steps_cons ?_ ?_
    · rintro b a w' ⟨gs, g6, m6_, m9_, m11_, ha, Q_KB_, Q_GE_gs, Q_LT_gs, Q_Z_gs, Q_GE_g6, Q_LT_g6, Q_Z_g6, Q_F_g6, Q_NE_g6_gs, Q_X6_, Q_X9_, Q_X11_⟩ hb_ hon hoff
      refine ⟨_, rfl, fun K hK => ?_⟩
      have e1 : a.tmps[1]? = some (.int .i64 n) := by rw [ha]; exact (putSel_off rfl).trans rfl
      replace ha := Aside0.mk ha
      have KB_ := Aside0.mk Q_KB_
      refine value_ (w1 := w') (v := .int .i64 n) (by rfl) rfl ?_ ?_
      · go_simp
        (try simp only [i64_w])
        try rfl
      refine hK.out _ _ ⟨gs, g6, m6_, m9_, m11_, (by rw [ha.out]; exact putSel_upk 7 hb_ rfl rfl rfl), Q_KB_, Q_GE_gs, Q_LT_gs, Q_Z_gs, Q_GE_g6, Q_LT_g6, Q_Z_g6, fun h0_ => absurd ((hoff 12 (by kernel_rfl)).symm.trans h0_) (by decide), Q_NE_g6_gs, Q_X6_, fun h0_ => absurd ((hoff 9 (by kernel_rfl)).symm.trans h0_) (by decide), Q_X11_⟩
    refine steps_cons ?_ ?_
    · rintro b a w' ⟨gs, g6, m6_, m9_, m11_, ha, Q_KB_, Q_GE_gs, Q_LT_gs, Q_Z_gs, Q_GE_g6, Q_LT_g6, Q_Z_g6, Q_F_g6, Q_NE_g6_gs, Q_X6_, Q_X9_, Q_X11_⟩ hb_ hon hoff
      refine ⟨_, rfl, fun K hK => ?_⟩
      have e23 : a.tmps[23]? = some (.int .i64 n) := by rw [ha]; exact putSel_on (e := (7, 23, .int .i64 n)) 7 rfl rfl (hon 7 (by kernel_rfl)) rfl
      replace ha := Aside0.mk ha
      have KB_ := Aside0.mk Q_KB_
      refine goes_ Try.func42 (by kernel_rfl) rfl #[.int .i64 n, .int .i64 3] (by rfl) rfl rfl (by first | (simp only [List.map_toArray, List.map_cons, List.map_nil, Act.eval, Array.getD_eq_getD_getElem?, Option.getD_some, e23]; done) | (simp only [List.map_toArray, List.map_cons, List.map_nil, Act.eval, Array.getD_eq_getD_getElem?, Option.getD_some, e23]; rfl)) ?_
      refine (HW.out _).mono ?_
      rintro e w2 ⟨rfl, hw⟩
      rw [hw]
      clear hw
      refine ⟨_, rfl, ?_⟩
      refine hK.out _ _ ⟨gs, g6, m6_, m9_, m11_, (by rw [ha.out]; exact putSel_upk 8 hb_ rfl rfl rfl), KB_.out, Q_GE_gs, fun h0_ => (Q_LT_gs h0_), fun h0_ => (Q_Z_gs h0_), Q_GE_g6, fun h0_ => (Q_LT_g6 h0_), fun h0_ h1_ => (Q_Z_g6 h0_ h1_), fun h0_ => absurd ((hoff 12 (by kernel_rfl)).symm.trans h0_) (by decide), Q_NE_g6_gs, Q_X6_, fun h0_ => absurd ((hoff 9 (by kernel_rfl)).symm.trans h0_) (by decide), Q_X11_⟩
    refine steps_cons ?_ ?_
    · rintro b a w' ⟨gs, g6, m6_, m9_, m11_, ha, Q_KB_, Q_GE_gs, Q_LT_gs, Q_Z_gs, Q_GE_g6, Q_LT_g6, Q_Z_g6, Q_F_g6, Q_NE_g6_gs, Q_X6_, Q_X9_, Q_X11_⟩ hb_ hon hoff
      refine ⟨_, rfl, fun K hK => ?_⟩
      have e22 : a.tmps[22]? = some (m6_) := by rw [ha]; exact putSel_on (e := (6, 22, m6_)) 6 rfl rfl (hon 6 (by kernel_rfl)) rfl
      rw [Q_X6_ (hon 6 (by kernel_rfl))] at e22
      have e24 : a.tmps[24]? = some (.int .i64 2) := by rw [ha]; exact putSel_on (e := (8, 24, .int .i64 2)) 8 rfl rfl (hon 8 (by kernel_rfl)) rfl
      replace ha := Aside0.mk ha
      have KB_ := Aside0.mk Q_KB_
      have GE_gs := Aside0.mk (Q_GE_gs (hon 6 (by kernel_rfl)))
      have LT_gs := Aside0.mk (Q_LT_gs (hon 6 (by kernel_rfl)))
      have Z_gs := Aside0.mk (Q_Z_gs (hon 6 (by kernel_rfl)))
      refine value_ (w1 := w') (v := .pointer (some ⟨gs, 4, none⟩)) (by rfl) rfl ?_ ?_
      · go_simp
        (try simp only [i64_w])
        try rfl
      refine hK.out _ _ ⟨gs, g6, m6_, (.pointer (some ⟨gs, 4, none⟩)), m11_, (by rw [ha.out]; exact putSel_upk 9 hb_ rfl rfl rfl), Q_KB_, Q_GE_gs, Q_LT_gs, Q_Z_gs, Q_GE_g6, Q_LT_g6, Q_Z_g6, fun h0_ => absurd ((hoff 12 (by kernel_rfl)).symm.trans h0_) (by decide), Q_NE_g6_gs, Q_X6_, fun _ => rfl, Q_X11_⟩
    refine steps_cons ?_ ?_
    · rintro b a w' ⟨gs, g6, m6_, m9_, m11_, ha, Q_KB_, Q_GE_gs, Q_LT_gs, Q_Z_gs, Q_GE_g6, Q_LT_g6, Q_Z_g6, Q_F_g6, Q_NE_g6_gs, Q_X6_, Q_X9_, Q_X11_⟩ hb_ hon hoff
      refine ⟨_, rfl, fun K hK => ?_⟩
      have e25 : a.tmps[25]? = some (m9_) := by rw [ha]; exact putSel_on (e := (9, 25, m9_)) 9 rfl rfl (hon 9 (by kernel_rfl)) rfl
      rw [Q_X9_ (hon 9 (by kernel_rfl))] at e25
      replace ha := Aside0.mk ha
      have KB_ := Aside0.mk Q_KB_
      have GE_gs := Aside0.mk (Q_GE_gs (hon 6 (by kernel_rfl)))
      have LT_gs := Aside0.mk (Q_LT_gs (hon 6 (by kernel_rfl)))
      have Z_gs := Aside0.mk (Q_Z_gs (hon 6 (by kernel_rfl)))
      have c0_ : w'.cell? ⟨gs, 4, none⟩ = some (.string p4) := (blk_cell Z_gs.out 4).trans rfl
      have c1_ : w'.cell? ⟨gs, 5, none⟩ = some (.string p5) := (blk_cell Z_gs.out 5).trans rfl
      refine value_ (w1 := w') (v := .agg #[.string p4, .string p5]) (by rfl) rfl ?_ ?_
      · go_simp
        (try simp only [i64_w])
        try rfl
      refine hK.out _ _ ⟨gs, g6, m6_, m9_, m11_, (by rw [ha.out]; exact putSel_upk 10 hb_ rfl rfl rfl), Q_KB_, Q_GE_gs, Q_LT_gs, Q_Z_gs, Q_GE_g6, Q_LT_g6, Q_Z_g6, fun h0_ => absurd ((hoff 12 (by kernel_rfl)).symm.trans h0_) (by decide), Q_NE_g6_gs, Q_X6_, Q_X9_, Q_X11_⟩
    refine steps_cons ?_ ?_
    · rintro b a w' ⟨gs, g6, m6_, m9_, m11_, ha, Q_KB_, Q_GE_gs, Q_LT_gs, Q_Z_gs, Q_GE_g6, Q_LT_g6, Q_Z_g6, Q_F_g6, Q_NE_g6_gs, Q_X6_, Q_X9_, Q_X11_⟩ hb_ hon hoff
      refine ⟨_, rfl, fun K hK => ?_⟩
      replace ha := Aside0.mk ha
      have KB_ := Aside0.mk Q_KB_
      refine value_ (w1 := w'.alloc (.cells #[.string ⟨#[]⟩, .string ⟨#[]⟩] 28)) (v := .pointer (some ⟨w'.heap.size, 0, none⟩)) (by rfl) rfl ?_ ?_
      · first | (go_simp; done) | (go_simp; rfl) | (go_simp; constructor <;> rfl)
      have hbox : (w'.alloc (.cells #[.string ⟨#[]⟩, .string ⟨#[]⟩] 28)).heap[w'.heap.size]? = some (.cells #[.string ⟨#[]⟩, .string ⟨#[]⟩] 28 (0, 0)) := blk_new _ _
      have hb : Below w'.heap.size w' (w'.alloc (.cells #[.string ⟨#[]⟩, .string ⟨#[]⟩] 28)) := below_alloc (Below.refl _ _) _
      generalize w'.alloc (.cells #[.string ⟨#[]⟩, .string ⟨#[]⟩] 28) = w2 at hbox hb ⊢
      have hle := (KB_.out).size
      generalize hg_ : w'.heap.size = g6n at hbox hle ⊢
      have z_NE_g6_gs := fun (h0_ : up b 11 11 = true) (h1_ : up b 11 6 = true) => (show g6n ≠ gs from by have h_ := Q_LT_gs h1_; omega)
      refine hK.out _ _ ⟨gs, g6n, m6_, m9_, (.pointer (some ⟨g6n, 0, none⟩)), (by rw [ha.out]; exact putSel_upk 11 hb_ rfl rfl rfl), below_step KB_.out hb, Q_GE_gs, fun h0_ => Nat.lt_of_lt_of_le (Q_LT_gs h0_) hb.size, fun h0_ => blk_below (Q_Z_gs h0_) hb, fun _ => hle, fun _ => blk_lt hbox, fun _ _ => hbox, fun h0_ => absurd ((hoff 12 (by kernel_rfl)).symm.trans h0_) (by decide), fun _ _ => z_NE_g6_gs (by assumption) (by assumption), Q_X6_, Q_X9_, fun _ => rfl⟩
    refine steps_cons ?_ ?_
    · rintro b a w' ⟨gs, g6, m6_, m9_, m11_, ha, Q_KB_, Q_GE_gs, Q_LT_gs, Q_Z_gs, Q_GE_g6, Q_LT_g6, Q_Z_g6, Q_F_g6, Q_NE_g6_gs, Q_X6_, Q_X9_, Q_X11_⟩ hb_ hon hoff
      refine ⟨_, rfl, fun K hK => ?_⟩
      have e6 : a.tmps[6]? = some (m11_) := by rw [ha]; exact putSel_on (e := (11, 6, m11_)) 11 rfl rfl (hon 11 (by kernel_rfl)) rfl
      rw [Q_X11_ (hon 11 (by kernel_rfl))] at e6
      have e26 : a.tmps[26]? = some (.agg #[.string p4, .string p5]) := by rw [ha]; exact putSel_on (e := (10, 26, .agg #[.string p4, .string p5])) 10 rfl rfl (hon 10 (by kernel_rfl)) rfl
      replace ha := Aside0.mk ha
      have KB_ := Aside0.mk Q_KB_
      have GE_gs := Aside0.mk (Q_GE_gs (hon 6 (by kernel_rfl)))
      have LT_gs := Aside0.mk (Q_LT_gs (hon 6 (by kernel_rfl)))
      have Z_gs := Aside0.mk (Q_Z_gs (hon 6 (by kernel_rfl)))
      have GE_g6 := Aside0.mk (Q_GE_g6 (hon 11 (by kernel_rfl)))
      have LT_g6 := Aside0.mk (Q_LT_g6 (hon 11 (by kernel_rfl)))
      have Z_g6 := Aside0.mk (Q_Z_g6 (hon 11 (by kernel_rfl)) hb_)
      have NE_g6_gs := Aside0.mk (Q_NE_g6_gs (hon 11 (by kernel_rfl)) (hon 6 (by kernel_rfl)))
      have y0 : w'.cell? ⟨g6, 0, none⟩ = some (.string ⟨#[]⟩) := (blk_cell Z_g6.out 0).trans rfl
      have f0 := blk_frozen Z_g6.out 0
      have y1 : w'.cell? ⟨g6, 1, none⟩ = some (.string ⟨#[]⟩) := (blk_cell Z_g6.out 1).trans rfl
      have f1 := blk_frozen Z_g6.out 1
      refine skip_ (w1 := ?_) (by rfl) rfl ?_ ?_
      rotate_left
      · go_simp
        rfl
      refine hK.out _ _ ⟨gs, g6, m6_, m9_, m11_, (by rw [ha.out]; exact putSel_none (v := undef) rfl), below_set (below_set (KB_.out) GE_g6.out) GE_g6.out, Q_GE_gs, fun _ => lt_set (lt_set (LT_gs.out)), fun _ => blk_far (p := ⟨g6, 1, none⟩) (blk_far (p := ⟨g6, 0, none⟩) (Z_gs.out) (Ne.symm NE_g6_gs.out) _) (Ne.symm NE_g6_gs.out) _, Q_GE_g6, fun _ => lt_set (lt_set (LT_g6.out)), fun _ h1_ => absurd ((up_self b 12).symm.trans h1_) (by decide), fun _ => blk_put (cs := #[.string p4, .string ⟨#[]⟩]) (cs' := #[.string p4, .string p5]) (blk_put (cs := #[.string ⟨#[]⟩, .string ⟨#[]⟩]) (cs' := #[.string p4, .string ⟨#[]⟩]) (Z_g6.out) 0 _ rfl) 1 _ rfl, Q_NE_g6_gs, Q_X6_, Q_X9_, Q_X11_⟩
    exact steps_nil
  rintro b a w' hall ⟨gs, g6, m6_, m9_, m11_, ha, Q_KB_, Q_GE_gs, Q_LT_gs, Q_Z_gs, Q_GE_g6, Q_LT_g6, Q_Z_g6, Q_F_g6, Q_NE_g6_gs, Q_X6_, Q_X9_, Q_X11_⟩
  clear KB_
  have hb0_ := hall 0 (by kernel_rfl)
  have hb1_ := hall 1 (by kernel_rfl)
  have hb2_ := hall 2 (by kernel_rfl)
  have hb3_ := hall 3 (by kernel_rfl)
  have hb4_ := hall 4 (by kernel_rfl)
  have hb5_ := hall 5 (by kernel_rfl)
  have hb6_ := hall 6 (by kernel_rfl)
  have hb7_ := hall 7 (by kernel_rfl)
  have hb8_ := hall 8 (by kernel_rfl)
  have hb9_ := hall 9 (by kernel_rfl)
  have hb10_ := hall 10 (by kernel_rfl)
  have hb11_ := hall 11 (by kernel_rfl)
  have hb12_ := hall 12 (by kernel_rfl)
  subst ha
  obtain rfl := Q_X6_ hb6_
  obtain rfl := Q_X9_ hb9_
  obtain rfl := Q_X11_ hb11_
  simp only [putSel, hb0_, hb1_, hb2_, hb3_, hb4_, hb5_, hb6_, hb7_, hb8_, hb9_, hb10_, hb11_, hb12_, if_true, Act.put, List.setIfInBounds_toArray, List.set_cons_zero, List.set_cons_succ]
  have KB_ := Aside0.mk Q_KB_
  clear Q_KB_
  have GE_gs := Aside0.mk (Q_GE_gs hb6_)
  clear Q_GE_gs
  have LT_gs := Aside0.mk (Q_LT_gs hb6_)
  clear Q_LT_gs
  have Z_gs := Aside0.mk (Q_Z_gs hb6_)
  clear Q_Z_gs
  have GE_g6 := Aside0.mk (Q_GE_g6 hb11_)
  clear Q_GE_g6
  have LT_g6 := Aside0.mk (Q_LT_g6 hb11_)
  clear Q_LT_g6
  clear Q_Z_g6
  have F_g6 := Aside0.mk (Q_F_g6 hb12_)
  clear Q_F_g6
  have NE_g6_gs := Aside0.mk (Q_NE_g6_gs hb11_ hb6_)
  clear Q_NE_g6_gs
  clear hall hb0_ hb1_ hb2_ hb3_ hb4_ hb5_ hb6_ hb7_ hb8_ hb9_ hb10_ hb11_ hb12_
  replace HB := Aside0.mk (below_step HB.out KB_.out)
  replace HQ := Aside0.mk (blk_below HQ.out KB_.out)
  have HU := F_g6
  clear F_g6 KB_ GE_g6 LT_g6 GE_gs LT_gs Z_gs NE_g6_gs
  generalize w' = w4 at HB HQ HU ⊢
  have HE5 : Aside0 (∀ W, Calls Try.prog 43 #[.slice none 0 0, .agg #[.string p0, .string p1, .string p2, .string p3, .string p4, .string p5], .agg #[.int .i64 5, .bool false, .int .i64 0, .string ⟨#[114, 101, 115, 111, 117, 114, 99, 101]⟩, .string ⟨#[]⟩, .string ⟨#[]⟩, .slice none 0 0]] W fun e w' => e = .returned (.tuple #[.agg #[.int .i64 4, .bool false, .int .i64 0, .string ⟨#[]⟩, .string p4, .string p5, .slice none 0 0], .int .i64 0]) ∧ Below W.heap.size W w') := ⟨fun W => Expr_calls none 0 0 p0 p1 p2 p3 p4 p5 5 false 0 ⟨#[114, 101, 115, 111, 117, 114, 99, 101]⟩ ⟨#[]⟩ ⟨#[]⟩ (.slice none 0 0) ⟨4, false, 0, ⟨#[]⟩, p4, p5⟩ 0 W (expr_leaf none 0 0 p0 p1 p2 p3 p4 p5 5 false 0 ⟨#[114, 101, 115, 111, 117, 114, 99, 101]⟩ ⟨#[]⟩ ⟨#[]⟩ (.slice none 0 0) ⟨4, false, 0, ⟨#[]⟩, p4, p5⟩ (by decide) (fun W => leaf_resource none 0 0 p0 p1 p2 p3 p4 p5 false 0 ⟨#[]⟩ ⟨#[]⟩ (.slice none 0 0) W) W)⟩
  go_upto_region 5 with (fail)
  replace HB : Aside0 (Below w.heap.size w w4.drew) := ⟨below_drew1 HB.out⟩
  replace HQ : Aside0 (w4.drew.heap[g5]? = some (.cells #[.string p0, .string p1, .string p2, .string p3, .string p4, .string p5] 77 (0, 0))) := ⟨HQ.out⟩
  replace HU : Aside0 (w4.drew.heap[g6]? = some (.cells #[.string p4, .string p5] 28 (0, 0))) := ⟨HU.out⟩
  refine start_ (n := 14) (S := fun w' => True) (ds := []) #[false, false, false, false, false, false, false, false, false, false, false, false, false, false] (by kernel_rfl) rfl rfl trivial (fun hHeld => ?_)
  refine with_tabW rw5_tab rw5_bits (fun HT_ HW_ => ?_)
  generalize w4.drew = wd at HB HQ HU hHeld ⊢
  have KB_ := Aside0.mk (Below.refl wd.heap.size wd)
  refine inv_at [0, 1, 2, 3, 4, 5, 6, 7, 8, 9, 10, 11, 12, 13] (fun a0_ b a w' => ∃ (gs : Nat) (g7 : Nat) (m1_ : Value) (m4_ : Value) (m11_ : Value), a = putSel a0_ b [(0, 28, .agg #[.string p0, .string p1, .string p2, .string p3, .string p4, .string p5]), (1, 29, m1_), (2, 30, .int .i64 n), (3, 31, .int .i64 2), (4, 32, m4_), (5, 33, .string ⟨#[114, 101, 115, 111, 117, 114, 99, 101]⟩), (6, 34, .agg #[.int .i64 5, .bool false, .int .i64 0, .string ⟨#[114, 101, 115, 111, 117, 114, 99, 101]⟩, .string ⟨#[]⟩, .string ⟨#[]⟩, .slice none 0 0]), (7, 35, .tuple #[.agg #[.int .i64 4, .bool false, .int .i64 0, .string ⟨#[]⟩, .string p4, .string p5, .slice none 0 0], .int .i64 0]), (8, 27, .tuple #[.agg #[.int .i64 4, .bool false, .int .i64 0, .string ⟨#[]⟩, .string p4, .string p5, .slice none 0 0], .int .i64 0]), (9, 36, .agg #[.int .i64 4, .bool false, .int .i64 0, .string ⟨#[]⟩, .string p4, .string p5, .slice none 0 0]), (10, 37, .int .i64 0), (11, 7, m11_), (13, 8, .int .i64 0)] ∧ (Below wd.heap.size wd w') ∧ (b 1 = true → wd.heap.size ≤ gs) ∧ (b 1 = true → gs < w'.heap.size) ∧ (b 1 = true → w'.heap[gs]? = some (.cells #[.string ⟨#[112, 114, 105, 110, 99, 105, 112, 97, 108]⟩, .string ⟨#[97, 99, 116, 105, 111, 110]⟩, .string ⟨#[114, 101, 115, 111, 117, 114, 99, 101]⟩] 9 (0, 0))) ∧ (b 11 = true → wd.heap.size ≤ g7) ∧ (b 11 = true → g7 < w'.heap.size) ∧ (b 11 = true → b 12 = false → w'.heap[g7]? = some (.cells #[.int .i64 0, .bool false, .int .i64 0, .string ⟨#[]⟩, .string ⟨#[]⟩, .string ⟨#[]⟩, .slice none 0 0] 55 (0, 0))) ∧ (b 12 = true → w'.heap[g7]? = some (.cells #[.int .i64 4, .bool false, .int .i64 0, .string ⟨#[]⟩, .string p4, .string p5, .slice none 0 0] 55 (0, 0))) ∧ (b 11 = true → b 1 = true → g7 ≠ gs) ∧ (b 1 = true → (m1_ : Value) = .slice (some ⟨gs, 0, none⟩) 3 3) ∧ (b 4 = true → (m4_ : Value) = .pointer (some ⟨gs, 2, none⟩)) ∧ (b 11 = true → (m11_ : Value) = .pointer (some ⟨g7, 0, none⟩))) HT_.out HW_.out (by kernel_rfl) (by kernel_rfl) ?_ ?_ ?_
  · exact ⟨0, 0, .bool false, .bool false, .bool false, by simp only [putSel, Bool.false_eq_true, if_false], KB_.out, fun h_ => absurd h_ (by decide), fun h_ => absurd h_ (by decide), fun h_ => absurd h_ (by decide), fun h_ => absurd h_ (by decide), fun h_ => absurd h_ (by decide), fun h_ => absurd h_ (by decide), fun h_ => absurd h_ (by decide), fun h_ => absurd h_ (by decide), fun h_ => absurd h_ (by decide), fun h_ => absurd h_ (by decide), fun h_ => absurd h_ (by decide)⟩
  · skip
    clear KB_
    refine steps_cons ?_ ?_
    · rintro b a w' ⟨gs, g7, m1_, m4_, m11_, ha, Q_KB_, Q_GE_gs, Q_LT_gs, Q_Z_gs, Q_GE_g7, Q_LT_g7, Q_Z_g7, Q_F_g7, Q_NE_g7_gs, Q_X1_, Q_X4_, Q_X11_⟩ hb_ hon hoff
      refine ⟨_, rfl, fun K hK => ?_⟩
      have e5 : a.tmps[5]? = some (.pointer (some ⟨g5, 0, none⟩)) := by rw [ha]; exact (putSel_off rfl).trans rfl
      replace ha := Aside0.mk ha
      have KB_ := Aside0.mk Q_KB_
      have c0_ : w'.cell? ⟨g5, 0, none⟩ = some (.string p0) := (blk_cell (blk_below HQ.out KB_.out) 0).trans rfl
      have c1_ : w'.cell? ⟨g5, 1, none⟩ = some (.string p1) := (blk_cell (blk_below HQ.out KB_.out) 1).trans rfl
      have c2_ : w'.cell? ⟨g5, 2, none⟩ = some (.string p2) := (blk_cell (blk_below HQ.out KB_.out) 2).trans rfl
      have c3_ : w'.cell? ⟨g5, 3, none⟩ = some (.string p3) := (blk_cell (blk_below HQ.out KB_.out) 3).trans rfl
      have c4_ : w'.cell? ⟨g5, 4, none⟩ = some (.string p4) := (blk_cell (blk_below HQ.out KB_.out) 4).trans rfl
      have c5_ : w'.cell? ⟨g5, 5, none⟩ = some (.string p5) := (blk_cell (blk_below HQ.out KB_.out) 5).trans rfl
      refine value_ (w1 := w') (v := .agg #[.string p0, .string p1, .string p2, .string p3, .string p4, .string p5]) (by rfl) rfl ?_ ?_
      · go_simp
        (try simp only [i64_w])
        try rfl
      refine hK.out _ _ ⟨gs, g7, m1_, m4_, m11_, (by rw [ha.out]; exact putSel_upk 0 hb_ rfl rfl rfl), Q_KB_, Q_GE_gs, Q_LT_gs, Q_Z_gs, Q_GE_g7, Q_LT_g7, Q_Z_g7, fun h0_ => absurd ((hoff 12 (by kernel_rfl)).symm.trans h0_) (by decide), Q_NE_g7_gs, Q_X1_, Q_X4_, Q_X11_⟩
    refine steps_cons ?_ ?_
    · rintro b a w' ⟨gs, g7, m1_, m4_, m11_, ha, Q_KB_, Q_GE_gs, Q_LT_gs, Q_Z_gs, Q_GE_g7, Q_LT_g7, Q_Z_g7, Q_F_g7, Q_NE_g7_gs, Q_X1_, Q_X4_, Q_X11_⟩ hb_ hon hoff
      refine ⟨_, rfl, fun K hK => ?_⟩
      replace ha := Aside0.mk ha
      have KB_ := Aside0.mk Q_KB_
      refine value_ (w1 := w'.alloc (.cells #[.string ⟨#[112, 114, 105, 110, 99, 105, 112, 97, 108]⟩, .string ⟨#[97, 99, 116, 105, 111, 110]⟩, .string ⟨#[114, 101, 115, 111, 117, 114, 99, 101]⟩] 9)) (v := .slice (some ⟨w'.heap.size, 0, none⟩) 3 3) (by rfl) rfl ?_ ?_
      · first | (go_simp; done) | (go_simp; rfl) | (go_simp; constructor <;> rfl)
      have hbox : (w'.alloc (.cells #[.string ⟨#[112, 114, 105, 110, 99, 105, 112, 97, 108]⟩, .string ⟨#[97, 99, 116, 105, 111, 110]⟩, .string ⟨#[114, 101, 115, 111, 117, 114, 99, 101]⟩] 9)).heap[w'.heap.size]? = some (.cells #[.string ⟨#[112, 114, 105, 110, 99, 105, 112, 97, 108]⟩, .string ⟨#[97, 99, 116, 105, 111, 110]⟩, .string ⟨#[114, 101, 115, 111, 117, 114, 99, 101]⟩] 9 (0, 0)) := blk_new _ _
      have hb : Below w'.heap.size w' (w'.alloc (.cells #[.string ⟨#[112, 114, 105, 110, 99, 105, 112, 97, 108]⟩, .string ⟨#[97, 99, 116, 105, 111, 110]⟩, .string ⟨#[114, 101, 115, 111, 117, 114, 99, 101]⟩] 9)) := below_alloc (Below.refl _ _) _
      generalize w'.alloc (.cells #[.string ⟨#[112, 114, 105, 110, 99, 105, 112, 97, 108]⟩, .string ⟨#[97, 99, 116, 105, 111, 110]⟩, .string ⟨#[114, 101, 115, 111, 117, 114, 99, 101]⟩] 9) = w2 at hbox hb ⊢
      have hle := (KB_.out).size
      generalize hg_ : w'.heap.size = gsn at hbox hle ⊢
      have z_NE_g7_gs := fun (h0_ : up b 1 11 = true) (h1_ : up b 1 1 = true) => (show g7 ≠ gsn from by have h_ := Q_LT_g7 h0_; omega)
      refine hK.out _ _ ⟨gsn, g7, (.slice (some ⟨gsn, 0, none⟩) 3 3), m4_, m11_, (by rw [ha.out]; exact putSel_upk 1 hb_ rfl rfl rfl), below_step KB_.out hb, fun _ => hle, fun _ => blk_lt hbox, fun _ => hbox, Q_GE_g7, fun h0_ => Nat.lt_of_lt_of_le (Q_LT_g7 h0_) hb.size, fun h0_ h1_ => blk_below (Q_Z_g7 h0_ h1_) hb, fun h0_ => absurd ((hoff 12 (by kernel_rfl)).symm.trans h0_) (by decide), fun _ _ => z_NE_g7_gs (by assumption) (by assumption), fun _ => rfl, fun h0_ => absurd ((hoff 4 (by kernel_rfl)).symm.trans h0_) (by decide), Q_X11_⟩
    refine steps_cons ?_ ?_
    · rintro b a w' ⟨gs, g7, m1_, m4_, m11_, ha, Q_KB_, Q_GE_gs, Q_LT_gs, Q_Z_gs, Q_GE_g7, Q_LT_g7, Q_Z_g7, Q_F_g7, Q_NE_g7_gs, Q_X1_, Q_X4_, Q_X11_⟩ hb_ hon hoff
      refine ⟨_, rfl, fun K hK => ?_⟩
      have e1 : a.tmps[1]? = some (.int .i64 n) := by rw [ha]; exact (putSel_off rfl).trans rfl
      replace ha := Aside0.mk ha
      have KB_ := Aside0.mk Q_KB_
      refine value_ (w1 := w') (v := .int .i64 n) (by rfl) rfl ?_ ?_
      · go_simp
        (try simp only [i64_w])
        try rfl
      refine hK.out _ _ ⟨gs, g7, m1_, m4_, m11_, (by rw [ha.out]; exact putSel_upk 2 hb_ rfl rfl rfl), Q_KB_, Q_GE_gs, Q_LT_gs, Q_Z_gs, Q_GE_g7, Q_LT_g7, Q_Z_g7, fun h0_ => absurd ((hoff 12 (by kernel_rfl)).symm.trans h0_) (by decide), Q_NE_g7_gs, Q_X1_, fun h0_ => absurd ((hoff 4 (by kernel_rfl)).symm.trans h0_) (by decide), Q_X11_⟩
    refine steps_cons ?_ ?_
    · rintro b a w' ⟨gs, g7, m1_, m4_, m11_, ha, Q_KB_, Q_GE_gs, Q_LT_gs, Q_Z_gs, Q_GE_g7, Q_LT_g7, Q_Z_g7, Q_F_g7, Q_NE_g7_gs, Q_X1_, Q_X4_, Q_X11_⟩ hb_ hon hoff
      refine ⟨_, rfl, fun K hK => ?_⟩
      have e30 : a.tmps[30]? = some (.int .i64 n) := by rw [ha]; exact putSel_on (e := (2, 30, .int .i64 n)) 2 rfl rfl (hon 2 (by kernel_rfl)) rfl
      replace ha := Aside0.mk ha
      have KB_ := Aside0.mk Q_KB_
      refine goes_ Try.func42 (by kernel_rfl) rfl #[.int .i64 n, .int .i64 3] (by rfl) rfl rfl (by first | (simp only [List.map_toArray, List.map_cons, List.map_nil, Act.eval, Array.getD_eq_getD_getElem?, Option.getD_some, e30]; done) | (simp only [List.map_toArray, List.map_cons, List.map_nil, Act.eval, Array.getD_eq_getD_getElem?, Option.getD_some, e30]; rfl)) ?_
      refine (HW.out _).mono ?_
      rintro e w2 ⟨rfl, hw⟩
      rw [hw]
      clear hw
      refine ⟨_, rfl, ?_⟩
      refine hK.out _ _ ⟨gs, g7, m1_, m4_, m11_, (by rw [ha.out]; exact putSel_upk 3 hb_ rfl rfl rfl), KB_.out, Q_GE_gs, fun h0_ => (Q_LT_gs h0_), fun h0_ => (Q_Z_gs h0_), Q_GE_g7, fun h0_ => (Q_LT_g7 h0_), fun h0_ h1_ => (Q_Z_g7 h0_ h1_), fun h0_ => absurd ((hoff 12 (by kernel_rfl)).symm.trans h0_) (by decide), Q_NE_g7_gs, Q_X1_, fun h0_ => absurd ((hoff 4 (by kernel_rfl)).symm.trans h0_) (by decide), Q_X11_⟩
    refine steps_cons ?_ ?_
    · rintro b a w' ⟨gs, g7, m1_, m4_, m11_, ha, Q_KB_, Q_GE_gs, Q_LT_gs, Q_Z_gs, Q_GE_g7, Q_LT_g7, Q_Z_g7, Q_F_g7, Q_NE_g7_gs, Q_X1_, Q_X4_, Q_X11_⟩ hb_ hon hoff
      refine ⟨_, rfl, fun K hK => ?_⟩
      have e29 : a.tmps[29]? = some (m1_) := by rw [ha]; exact putSel_on (e := (1, 29, m1_)) 1 rfl rfl (hon 1 (by kernel_rfl)) rfl
      rw [Q_X1_ (hon 1 (by kernel_rfl))] at e29
      have e31 : a.tmps[31]? = some (.int .i64 2) := by rw [ha]; exact putSel_on (e := (3, 31, .int .i64 2)) 3 rfl rfl (hon 3 (by kernel_rfl)) rfl
      replace ha := Aside0.mk ha
      have KB_ := Aside0.mk Q_KB_
      have GE_gs := Aside0.mk (Q_GE_gs (hon 1 (by kernel_rfl)))
      have LT_gs := Aside0.mk (Q_LT_gs (hon 1 (by kernel_rfl)))
      have Z_gs := Aside0.mk (Q_Z_gs (hon 1 (by kernel_rfl)))
      refine value_ (w1 := w') (v := .pointer (some ⟨gs, 2, none⟩)) (by rfl) rfl ?_ ?_
      · go_simp
        (try simp only [i64_w])
        try rfl
      refine hK.out _ _ ⟨gs, g7, m1_, (.pointer (some ⟨gs, 2, none⟩)), m11_, (by rw [ha.out]; exact putSel_upk 4 hb_ rfl rfl rfl), Q_KB_, Q_GE_gs, Q_LT_gs, Q_Z_gs, Q_GE_g7, Q_LT_g7, Q_Z_g7, fun h0_ => absurd ((hoff 12 (by kernel_rfl)).symm.trans h0_) (by decide), Q_NE_g7_gs, Q_X1_, fun _ => rfl, Q_X11_⟩
    refine steps_cons ?_ ?_
    · rintro b a w' ⟨gs, g7, m1_, m4_, m11_, ha, Q_KB_, Q_GE_gs, Q_LT_gs, Q_Z_gs, Q_GE_g7, Q_LT_g7, Q_Z_g7, Q_F_g7, Q_NE_g7_gs, Q_X1_, Q_X4_, Q_X11_⟩ hb_ hon hoff
      refine ⟨_, rfl, fun K hK => ?_⟩
      have e32 : a.tmps[32]? = some (m4_) := by rw [ha]; exact putSel_on (e := (4, 32, m4_)) 4 rfl rfl (hon 4 (by kernel_rfl)) rfl
      rw [Q_X4_ (hon 4 (by kernel_rfl))] at e32
      replace ha := Aside0.mk ha
      have KB_ := Aside0.mk Q_KB_
      have GE_gs := Aside0.mk (Q_GE_gs (hon 1 (by kernel_rfl)))
      have LT_gs := Aside0.mk (Q_LT_gs (hon 1 (by kernel_rfl)))
      have Z_gs := Aside0.mk (Q_Z_gs (hon 1 (by kernel_rfl)))
      have c0_ : w'.cell? ⟨gs, 2, none⟩ = some (.string ⟨#[114, 101, 115, 111, 117, 114, 99, 101]⟩) := (blk_cell Z_gs.out 2).trans rfl
      refine value_ (w1 := w') (v := .string ⟨#[114, 101, 115, 111, 117, 114, 99, 101]⟩) (by rfl) rfl ?_ ?_
      · go_simp
        (try simp only [i64_w])
        try rfl
      refine hK.out _ _ ⟨gs, g7, m1_, m4_, m11_, (by rw [ha.out]; exact putSel_upk 5 hb_ rfl rfl rfl), Q_KB_, Q_GE_gs, Q_LT_gs, Q_Z_gs, Q_GE_g7, Q_LT_g7, Q_Z_g7, fun h0_ => absurd ((hoff 12 (by kernel_rfl)).symm.trans h0_) (by decide), Q_NE_g7_gs, Q_X1_, Q_X4_, Q_X11_⟩
    refine steps_cons ?_ ?_
    · rintro b a w' ⟨gs, g7, m1_, m4_, m11_, ha, Q_KB_, Q_GE_gs, Q_LT_gs, Q_Z_gs, Q_GE_g7, Q_LT_g7, Q_Z_g7, Q_F_g7, Q_NE_g7_gs, Q_X1_, Q_X4_, Q_X11_⟩ hb_ hon hoff
      refine ⟨_, rfl, fun K hK => ?_⟩
      have e33 : a.tmps[33]? = some (.string ⟨#[114, 101, 115, 111, 117, 114, 99, 101]⟩) := by rw [ha]; exact putSel_on (e := (5, 33, .string ⟨#[114, 101, 115, 111, 117, 114, 99, 101]⟩)) 5 rfl rfl (hon 5 (by kernel_rfl)) rfl
      replace ha := Aside0.mk ha
      have KB_ := Aside0.mk Q_KB_
      have GE_gs := Aside0.mk (Q_GE_gs (hon 1 (by kernel_rfl)))
      have LT_gs := Aside0.mk (Q_LT_gs (hon 1 (by kernel_rfl)))
      have Z_gs := Aside0.mk (Q_Z_gs (hon 1 (by kernel_rfl)))
      refine value_ (w1 := w') (v := .agg #[.int .i64 5, .bool false, .int .i64 0, .string ⟨#[114, 101, 115, 111, 117, 114, 99, 101]⟩, .string ⟨#[]⟩, .string ⟨#[]⟩, .slice none 0 0]) (by rfl) rfl ?_ ?_
      · go_simp
        (try simp only [i64_w])
        try rfl
      refine hK.out _ _ ⟨gs, g7, m1_, m4_, m11_, (by rw [ha.out]; exact putSel_upk 6 hb_ rfl rfl rfl), Q_KB_, Q_GE_gs, Q_LT_gs, Q_Z_gs, Q_GE_g7, Q_LT_g7, Q_Z_g7, fun h0_ => absurd ((hoff 12 (by kernel_rfl)).symm.trans h0_) (by decide), Q_NE_g7_gs, Q_X1_, Q_X4_, Q_X11_⟩
    refine steps_cons ?_ ?_
    · rintro b a w' ⟨gs, g7, m1_, m4_, m11_, ha, Q_KB_, Q_GE_gs, Q_LT_gs, Q_Z_gs, Q_GE_g7, Q_LT_g7, Q_Z_g7, Q_F_g7, Q_NE_g7_gs, Q_X1_, Q_X4_, Q_X11_⟩ hb_ hon hoff
      refine ⟨_, rfl, fun K hK => ?_⟩
      have e28 : a.tmps[28]? = some (.agg #[.string p0, .string p1, .string p2, .string p3, .string p4, .string p5]) := by rw [ha]; exact putSel_on (e := (0, 28, .agg #[.string p0, .string p1, .string p2, .string p3, .string p4, .string p5])) 0 rfl rfl (hon 0 (by kernel_rfl)) rfl
      have e34 : a.tmps[34]? = some (.agg #[.int .i64 5, .bool false, .int .i64 0, .string ⟨#[114, 101, 115, 111, 117, 114, 99, 101]⟩, .string ⟨#[]⟩, .string ⟨#[]⟩, .slice none 0 0]) := by rw [ha]; exact putSel_on (e := (6, 34, .agg #[.int .i64 5, .bool false, .int .i64 0, .string ⟨#[114, 101, 115, 111, 117, 114, 99, 101]⟩, .string ⟨#[]⟩, .string ⟨#[]⟩, .slice none 0 0])) 6 rfl rfl (hon 6 (by kernel_rfl)) rfl
      replace ha := Aside0.mk ha
      have KB_ := Aside0.mk Q_KB_
      have GE_gs := Aside0.mk (Q_GE_gs (hon 1 (by kernel_rfl)))
      have LT_gs := Aside0.mk (Q_LT_gs (hon 1 (by kernel_rfl)))
      have Z_gs := Aside0.mk (Q_Z_gs (hon 1 (by kernel_rfl)))
      refine goes_ Try.func43 (by kernel_rfl) rfl #[.slice none 0 0, .agg #[.string p0, .string p1, .string p2, .string p3, .string p4, .string p5], .agg #[.int .i64 5, .bool false, .int .i64 0, .string ⟨#[114, 101, 115, 111, 117, 114, 99, 101]⟩, .string ⟨#[]⟩, .string ⟨#[]⟩, .slice none 0 0]] (by rfl) rfl rfl (by first | (simp only [List.map_toArray, List.map_cons, List.map_nil, Act.eval, Array.getD_eq_getD_getElem?, Option.getD_some, e28, e34]; done) | (simp only [List.map_toArray, List.map_cons, List.map_nil, Act.eval, Array.getD_eq_getD_getElem?, Option.getD_some, e28, e34]; rfl)) ?_
      refine (HE5.out _).mono ?_
      rintro e w2 ⟨rfl, hb⟩
      refine ⟨_, rfl, ?_⟩
      refine hK.out _ _ ⟨gs, g7, m1_, m4_, m11_, (by rw [ha.out]; exact putSel_upk 7 hb_ rfl rfl rfl), below_step KB_.out hb, Q_GE_gs, fun _ => Nat.lt_of_lt_of_le LT_gs.out hb.size, fun _ => blk_below Z_gs.out hb, Q_GE_g7, fun h0_ => Nat.lt_of_lt_of_le (Q_LT_g7 h0_) hb.size, fun h0_ h1_ => blk_below (Q_Z_g7 h0_ h1_) hb, fun h0_ => absurd ((hoff 12 (by kernel_rfl)).symm.trans h0_) (by decide), Q_NE_g7_gs, Q_X1_, Q_X4_, Q_X11_⟩
    refine steps_cons ?_ ?_
    · rintro b a w' ⟨gs, g7, m1_, m4_, m11_, ha, Q_KB_, Q_GE_gs, Q_LT_gs, Q_Z_gs, Q_GE_g7, Q_LT_g7, Q_Z_g7, Q_F_g7, Q_NE_g7_gs, Q_X1_, Q_X4_, Q_X11_⟩ hb_ hon hoff
      refine ⟨_, rfl, fun K hK => ?_⟩
      have e35 : a.tmps[35]? = some (.tuple #[.agg #[.int .i64 4, .bool false, .int .i64 0, .string ⟨#[]⟩, .string p4, .string p5, .slice none 0 0], .int .i64 0]) := by rw [ha]; exact putSel_on (e := (7, 35, .tuple #[.agg #[.int .i64 4, .bool false, .int .i64 0, .string ⟨#[]⟩, .string p4, .string p5, .slice none 0 0], .int .i64 0])) 7 rfl rfl (hon 7 (by kernel_rfl)) rfl
      replace ha := Aside0.mk ha
      have KB_ := Aside0.mk Q_KB_
      have GE_gs := Aside0.mk (Q_GE_gs (hon 1 (by kernel_rfl)))
      have LT_gs := Aside0.mk (Q_LT_gs (hon 1 (by kernel_rfl)))
      have Z_gs := Aside0.mk (Q_Z_gs (hon 1 (by kernel_rfl)))
      refine value_ (w1 := w') (v := .tuple #[.agg #[.int .i64 4, .bool false, .int .i64 0, .string ⟨#[]⟩, .string p4, .string p5, .slice none 0 0], .int .i64 0]) (by rfl) rfl ?_ ?_
      · go_simp
        (try simp only [i64_w])
        try rfl
      refine hK.out _ _ ⟨gs, g7, m1_, m4_, m11_, (by rw [ha.out]; exact putSel_upk 8 hb_ rfl rfl rfl), Q_KB_, Q_GE_gs, Q_LT_gs, Q_Z_gs, Q_GE_g7, Q_LT_g7, Q_Z_g7, fun h0_ => absurd ((hoff 12 (by kernel_rfl)).symm.trans h0_) (by decide), Q_NE_g7_gs, Q_X1_, Q_X4_, Q_X11_⟩
    refine steps_cons ?_ ?_
    · rintro b a w' ⟨gs, g7, m1_, m4_, m11_, ha, Q_KB_, Q_GE_gs, Q_LT_gs, Q_Z_gs, Q_GE_g7, Q_LT_g7, Q_Z_g7, Q_F_g7, Q_NE_g7_gs, Q_X1_, Q_X4_, Q_X11_⟩ hb_ hon hoff
      refine ⟨_, rfl, fun K hK => ?_⟩
      have e27 : a.tmps[27]? = some (.tuple #[.agg #[.int .i64 4, .bool false, .int .i64 0, .string ⟨#[]⟩, .string p4, .string p5, .slice none 0 0], .int .i64 0]) := by rw [ha]; exact putSel_on (e := (8, 27, .tuple #[.agg #[.int .i64 4, .bool false, .int .i64 0, .string ⟨#[]⟩, .string p4, .string p5, .slice none 0 0], .int .i64 0])) 8 rfl rfl (hon 8 (by kernel_rfl)) rfl
      replace ha := Aside0.mk ha
      have KB_ := Aside0.mk Q_KB_
      have GE_gs := Aside0.mk (Q_GE_gs (hon 1 (by kernel_rfl)))
      have LT_gs := Aside0.mk (Q_LT_gs (hon 1 (by kernel_rfl)))
      have Z_gs := Aside0.mk (Q_Z_gs (hon 1 (by kernel_rfl)))
      refine value_ (w1 := w') (v := .agg #[.int .i64 4, .bool false, .int .i64 0, .string ⟨#[]⟩, .string p4, .string p5, .slice none 0 0]) (by rfl) rfl ?_ ?_
      · go_simp
        (try simp only [i64_w])
        try rfl
      refine hK.out _ _ ⟨gs, g7, m1_, m4_, m11_, (by rw [ha.out]; exact putSel_upk 9 hb_ rfl rfl rfl), Q_KB_, Q_GE_gs, Q_LT_gs, Q_Z_gs, Q_GE_g7, Q_LT_g7, Q_Z_g7, fun h0_ => absurd ((hoff 12 (by kernel_rfl)).symm.trans h0_) (by decide), Q_NE_g7_gs, Q_X1_, Q_X4_, Q_X11_⟩
    refine steps_cons ?_ ?_
    · rintro b a w' ⟨gs, g7, m1_, m4_, m11_, ha, Q_KB_, Q_GE_gs, Q_LT_gs, Q_Z_gs, Q_GE_g7, Q_LT_g7, Q_Z_g7, Q_F_g7, Q_NE_g7_gs, Q_X1_, Q_X4_, Q_X11_⟩ hb_ hon hoff
      refine ⟨_, rfl, fun K hK => ?_⟩
      have e27 : a.tmps[27]? = some (.tuple #[.agg #[.int .i64 4, .bool false, .int .i64 0, .string ⟨#[]⟩, .string p4, .string p5, .slice none 0 0], .int .i64 0]) := by rw [ha]; exact putSel_on (e := (8, 27, .tuple #[.agg #[.int .i64 4, .bool false, .int .i64 0, .string ⟨#[]⟩, .string p4, .string p5, .slice none 0 0], .int .i64 0])) 8 rfl rfl (hon 8 (by kernel_rfl)) rfl
      replace ha := Aside0.mk ha
      have KB_ := Aside0.mk Q_KB_
      have GE_gs := Aside0.mk (Q_GE_gs (hon 1 (by kernel_rfl)))
      have LT_gs := Aside0.mk (Q_LT_gs (hon 1 (by kernel_rfl)))
      have Z_gs := Aside0.mk (Q_Z_gs (hon 1 (by kernel_rfl)))
      refine value_ (w1 := w') (v := .int .i64 0) (by rfl) rfl ?_ ?_
      · go_simp
        (try simp only [i64_w])
        try rfl
      refine hK.out _ _ ⟨gs, g7, m1_, m4_, m11_, (by rw [ha.out]; exact putSel_upk 10 hb_ rfl rfl rfl), Q_KB_, Q_GE_gs, Q_LT_gs, Q_Z_gs, Q_GE_g7, Q_LT_g7, Q_Z_g7, Q_F_g7, Q_NE_g7_gs, Q_X1_, Q_X4_, Q_X11_⟩
    refine steps_cons ?_ ?_
    · rintro b a w' ⟨gs, g7, m1_, m4_, m11_, ha, Q_KB_, Q_GE_gs, Q_LT_gs, Q_Z_gs, Q_GE_g7, Q_LT_g7, Q_Z_g7, Q_F_g7, Q_NE_g7_gs, Q_X1_, Q_X4_, Q_X11_⟩ hb_ hon hoff
      refine ⟨_, rfl, fun K hK => ?_⟩
      replace ha := Aside0.mk ha
      have KB_ := Aside0.mk Q_KB_
      refine value_ (w1 := w'.alloc (.cells #[.int .i64 0, .bool false, .int .i64 0, .string ⟨#[]⟩, .string ⟨#[]⟩, .string ⟨#[]⟩, .slice none 0 0] 55)) (v := .pointer (some ⟨w'.heap.size, 0, none⟩)) (by rfl) rfl ?_ ?_
      · first | (go_simp; done) | (go_simp; rfl) | (go_simp; constructor <;> rfl)
      have hbox : (w'.alloc (.cells #[.int .i64 0, .bool false, .int .i64 0, .string ⟨#[]⟩, .string ⟨#[]⟩, .string ⟨#[]⟩, .slice none 0 0] 55)).heap[w'.heap.size]? = some (.cells #[.int .i64 0, .bool false, .int .i64 0, .string ⟨#[]⟩, .string ⟨#[]⟩, .string ⟨#[]⟩, .slice none 0 0] 55 (0, 0)) := blk_new _ _
      have hb : Below w'.heap.size w' (w'.alloc (.cells #[.int .i64 0, .bool false, .int .i64 0, .string ⟨#[]⟩, .string ⟨#[]⟩, .string ⟨#[]⟩, .slice none 0 0] 55)) := below_alloc (Below.refl _ _) _
      generalize w'.alloc (.cells #[.int .i64 0, .bool false, .int .i64 0, .string ⟨#[]⟩, .string ⟨#[]⟩, .string ⟨#[]⟩, .slice none 0 0] 55) = w2 at hbox hb ⊢
      have hle := (KB_.out).size
      generalize hg_ : w'.heap.size = g7n at hbox hle ⊢
      have z_NE_g7_gs := fun (h0_ : up b 11 11 = true) (h1_ : up b 11 1 = true) => (show g7n ≠ gs from by have h_ := Q_LT_gs h1_; omega)
      refine hK.out _ _ ⟨gs, g7n, m1_, m4_, (.pointer (some ⟨g7n, 0, none⟩)), (by rw [ha.out]; exact putSel_upk 11 hb_ rfl rfl rfl), below_step KB_.out hb, Q_GE_gs, fun h0_ => Nat.lt_of_lt_of_le (Q_LT_gs h0_) hb.size, fun h0_ => blk_below (Q_Z_gs h0_) hb, fun _ => hle, fun _ => blk_lt hbox, fun _ _ => hbox, fun h0_ => absurd ((hoff 12 (by kernel_rfl)).symm.trans h0_) (by decide), fun _ _ => z_NE_g7_gs (by assumption) (by assumption), Q_X1_, Q_X4_, fun _ => rfl⟩
    refine steps_cons ?_ ?_
    · rintro b a w' ⟨gs, g7, m1_, m4_, m11_, ha, Q_KB_, Q_GE_gs, Q_LT_gs, Q_Z_gs, Q_GE_g7, Q_LT_g7, Q_Z_g7, Q_F_g7, Q_NE_g7_gs, Q_X1_, Q_X4_, Q_X11_⟩ hb_ hon hoff
      refine ⟨_, rfl, fun K hK => ?_⟩
      have e7 : a.tmps[7]? = some (m11_) := by rw [ha]; exact putSel_on (e := (11, 7, m11_)) 11 rfl rfl (hon 11 (by kernel_rfl)) rfl
      rw [Q_X11_ (hon 11 (by kernel_rfl))] at e7
      have e36 : a.tmps[36]? = some (.agg #[.int .i64 4, .bool false, .int .i64 0, .string ⟨#[]⟩, .string p4, .string p5, .slice none 0 0]) := by rw [ha]; exact putSel_on (e := (9, 36, .agg #[.int .i64 4, .bool false, .int .i64 0, .string ⟨#[]⟩, .string p4, .string p5, .slice none 0 0])) 9 rfl rfl (hon 9 (by kernel_rfl)) rfl
      replace ha := Aside0.mk ha
      have KB_ := Aside0.mk Q_KB_
      have GE_gs := Aside0.mk (Q_GE_gs (hon 1 (by kernel_rfl)))
      have LT_gs := Aside0.mk (Q_LT_gs (hon 1 (by kernel_rfl)))
      have Z_gs := Aside0.mk (Q_Z_gs (hon 1 (by kernel_rfl)))
      have GE_g7 := Aside0.mk (Q_GE_g7 (hon 11 (by kernel_rfl)))
      have LT_g7 := Aside0.mk (Q_LT_g7 (hon 11 (by kernel_rfl)))
      have Z_g7 := Aside0.mk (Q_Z_g7 (hon 11 (by kernel_rfl)) hb_)
      have NE_g7_gs := Aside0.mk (Q_NE_g7_gs (hon 11 (by kernel_rfl)) (hon 1 (by kernel_rfl)))
      have y0 : w'.cell? ⟨g7, 0, none⟩ = some (.int .i64 0) := (blk_cell Z_g7.out 0).trans rfl
      have f0 := blk_frozen Z_g7.out 0
      have y1 : w'.cell? ⟨g7, 1, none⟩ = some (.bool false) := (blk_cell Z_g7.out 1).trans rfl
      have f1 := blk_frozen Z_g7.out 1
      have y2 : w'.cell? ⟨g7, 2, none⟩ = some (.int .i64 0) := (blk_cell Z_g7.out 2).trans rfl
      have f2 := blk_frozen Z_g7.out 2
      have y3 : w'.cell? ⟨g7, 3, none⟩ = some (.string ⟨#[]⟩) := (blk_cell Z_g7.out 3).trans rfl
      have f3 := blk_frozen Z_g7.out 3
      have y4 : w'.cell? ⟨g7, 4, none⟩ = some (.string ⟨#[]⟩) := (blk_cell Z_g7.out 4).trans rfl
      have f4 := blk_frozen Z_g7.out 4
      have y5 : w'.cell? ⟨g7, 5, none⟩ = some (.string ⟨#[]⟩) := (blk_cell Z_g7.out 5).trans rfl
      have f5 := blk_frozen Z_g7.out 5
      have y6 : w'.cell? ⟨g7, 6, none⟩ = some (.slice none 0 0) := (blk_cell Z_g7.out 6).trans rfl
      have f6 := blk_frozen Z_g7.out 6
      refine skip_ (w1 := ?_) (by rfl) rfl ?_ ?_
      rotate_left
      · go_simp
        rfl
      refine hK.out _ _ ⟨gs, g7, m1_, m4_, m11_, (by rw [ha.out]; exact putSel_none (v := undef) rfl), below_set (below_set (below_set (below_set (below_set (below_set (below_set (KB_.out) GE_g7.out) GE_g7.out) GE_g7.out) GE_g7.out) GE_g7.out) GE_g7.out) GE_g7.out, Q_GE_gs, fun _ => lt_set (lt_set (lt_set (lt_set (lt_set (lt_set (lt_set (LT_gs.out))))))), fun _ => blk_far (p := ⟨g7, 6, none⟩) (blk_far (p := ⟨g7, 5, none⟩) (blk_far (p := ⟨g7, 4, none⟩) (blk_far (p := ⟨g7, 3, none⟩) (blk_far (p := ⟨g7, 2, none⟩) (blk_far (p := ⟨g7, 1, none⟩) (blk_far (p := ⟨g7, 0, none⟩) (Z_gs.out) (Ne.symm NE_g7_gs.out) _) (Ne.symm NE_g7_gs.out) _) (Ne.symm NE_g7_gs.out) _) (Ne.symm NE_g7_gs.out) _) (Ne.symm NE_g7_gs.out) _) (Ne.symm NE_g7_gs.out) _) (Ne.symm NE_g7_gs.out) _, Q_GE_g7, fun _ => lt_set (lt_set (lt_set (lt_set (lt_set (lt_set (lt_set (LT_g7.out))))))), fun _ h1_ => absurd ((up_self b 12).symm.trans h1_) (by decide), fun _ => blk_put (cs := #[.int .i64 4, .bool false, .int .i64 0, .string ⟨#[]⟩, .string p4, .string p5, .slice none 0 0]) (cs' := #[.int .i64 4, .bool false, .int .i64 0, .string ⟨#[]⟩, .string p4, .string p5, .slice none 0 0]) (blk_put (cs := #[.int .i64 4, .bool false, .int .i64 0, .string ⟨#[]⟩, .string p4, .string ⟨#[]⟩, .slice none 0 0]) (cs' := #[.int .i64 4, .bool false, .int .i64 0, .string ⟨#[]⟩, .string p4, .string p5, .slice none 0 0]) (blk_put (cs := #[.int .i64 4, .bool false, .int .i64 0, .string ⟨#[]⟩, .string ⟨#[]⟩, .string ⟨#[]⟩, .slice none 0 0]) (cs' := #[.int .i64 4, .bool false, .int .i64 0, .string ⟨#[]⟩, .string p4, .string ⟨#[]⟩, .slice none 0 0]) (blk_put (cs := #[.int .i64 4, .bool false, .int .i64 0, .string ⟨#[]⟩, .string ⟨#[]⟩, .string ⟨#[]⟩, .slice none 0 0]) (cs' := #[.int .i64 4, .bool false, .int .i64 0, .string ⟨#[]⟩, .string ⟨#[]⟩, .string ⟨#[]⟩, .slice none 0 0]) (blk_put (cs := #[.int .i64 4, .bool false, .int .i64 0, .string ⟨#[]⟩, .string ⟨#[]⟩, .string ⟨#[]⟩, .slice none 0 0]) (cs' := #[.int .i64 4, .bool false, .int .i64 0, .string ⟨#[]⟩, .string ⟨#[]⟩, .string ⟨#[]⟩, .slice none 0 0]) (blk_put (cs := #[.int .i64 4, .bool false, .int .i64 0, .string ⟨#[]⟩, .string ⟨#[]⟩, .string ⟨#[]⟩, .slice none 0 0]) (cs' := #[.int .i64 4, .bool false, .int .i64 0, .string ⟨#[]⟩, .string ⟨#[]⟩, .string ⟨#[]⟩, .slice none 0 0]) (blk_put (cs := #[.int .i64 0, .bool false, .int .i64 0, .string ⟨#[]⟩, .string ⟨#[]⟩, .string ⟨#[]⟩, .slice none 0 0]) (cs' := #[.int .i64 4, .bool false, .int .i64 0, .string ⟨#[]⟩, .string ⟨#[]⟩, .string ⟨#[]⟩, .slice none 0 0]) (Z_g7.out) 0 _ rfl) 1 _ rfl) 2 _ rfl) 3 _ rfl) 4 _ rfl) 5 _ rfl) 6 _ rfl, Q_NE_g7_gs, Q_X1_, Q_X4_, Q_X11_⟩
    refine steps_cons ?_ ?_
    · rintro b a w' ⟨gs, g7, m1_, m4_, m11_, ha, Q_KB_, Q_GE_gs, Q_LT_gs, Q_Z_gs, Q_GE_g7, Q_LT_g7, Q_Z_g7, Q_F_g7, Q_NE_g7_gs, Q_X1_, Q_X4_, Q_X11_⟩ hb_ hon hoff
      refine ⟨_, rfl, fun K hK => ?_⟩
      have e37 : a.tmps[37]? = some (.int .i64 0) := by rw [ha]; exact putSel_on (e := (10, 37, .int .i64 0)) 10 rfl rfl (hon 10 (by kernel_rfl)) rfl
      replace ha := Aside0.mk ha
      have KB_ := Aside0.mk Q_KB_
      have GE_gs := Aside0.mk (Q_GE_gs (hon 1 (by kernel_rfl)))
      have LT_gs := Aside0.mk (Q_LT_gs (hon 1 (by kernel_rfl)))
      have Z_gs := Aside0.mk (Q_Z_gs (hon 1 (by kernel_rfl)))
      have GE_g7 := Aside0.mk (Q_GE_g7 (hon 11 (by kernel_rfl)))
      have LT_g7 := Aside0.mk (Q_LT_g7 (hon 11 (by kernel_rfl)))
      have F_g7 := Aside0.mk (Q_F_g7 (hon 12 (by kernel_rfl)))
      have NE_g7_gs := Aside0.mk (Q_NE_g7_gs (hon 11 (by kernel_rfl)) (hon 1 (by kernel_rfl)))
      refine value_ (w1 := w') (v := .int .i64 0) (by rfl) rfl ?_ ?_
      · go_simp
        (try simp only [i64_w])
        try rfl
      refine hK.out _ _ ⟨gs, g7, m1_, m4_, m11_, (by rw [ha.out]; exact putSel_upk 12 hb_ rfl rfl rfl), Q_KB_, Q_GE_gs, Q_LT_gs, Q_Z_gs, Q_GE_g7, Q_LT_g7, fun _ h1_ => absurd ((hon 12 (by kernel_rfl)).symm.trans h1_) (by decide), Q_F_g7, Q_NE_g7_gs, Q_X1_, Q_X4_, Q_X11_⟩
    exact steps_nil
  rintro b a w' hall ⟨gs, g7, m1_, m4_, m11_, ha, Q_KB_, Q_GE_gs, Q_LT_gs, Q_Z_gs, Q_GE_g7, Q_LT_g7, Q_Z_g7, Q_F_g7, Q_NE_g7_gs, Q_X1_, Q_X4_, Q_X11_⟩
  clear KB_
  have hb0_ := hall 0 (by kernel_rfl)
  have hb1_ := hall 1 (by kernel_rfl)
  have hb2_ := hall 2 (by kernel_rfl)
  have hb3_ := hall 3 (by kernel_rfl)
  have hb4_ := hall 4 (by kernel_rfl)
  have hb5_ := hall 5 (by kernel_rfl)
  have hb6_ := hall 6 (by kernel_rfl)
  have hb7_ := hall 7 (by kernel_rfl)
  have hb8_ := hall 8 (by kernel_rfl)
  have hb9_ := hall 9 (by kernel_rfl)
  have hb10_ := hall 10 (by kernel_rfl)
  have hb11_ := hall 11 (by kernel_rfl)
  have hb12_ := hall 12 (by kernel_rfl)
  have hb13_ := hall 13 (by kernel_rfl)
  subst ha
  obtain rfl := Q_X1_ hb1_
  obtain rfl := Q_X4_ hb4_
  obtain rfl := Q_X11_ hb11_
  simp only [putSel, hb0_, hb1_, hb2_, hb3_, hb4_, hb5_, hb6_, hb7_, hb8_, hb9_, hb10_, hb11_, hb12_, hb13_, if_true, Act.put, List.setIfInBounds_toArray, List.set_cons_zero, List.set_cons_succ]
  have KB_ := Aside0.mk Q_KB_
  clear Q_KB_
  have GE_gs := Aside0.mk (Q_GE_gs hb1_)
  clear Q_GE_gs
  have LT_gs := Aside0.mk (Q_LT_gs hb1_)
  clear Q_LT_gs
  have Z_gs := Aside0.mk (Q_Z_gs hb1_)
  clear Q_Z_gs
  have GE_g7 := Aside0.mk (Q_GE_g7 hb11_)
  clear Q_GE_g7
  have LT_g7 := Aside0.mk (Q_LT_g7 hb11_)
  clear Q_LT_g7
  clear Q_Z_g7
  have F_g7 := Aside0.mk (Q_F_g7 hb12_)
  clear Q_F_g7
  have NE_g7_gs := Aside0.mk (Q_NE_g7_gs hb11_ hb1_)
  clear Q_NE_g7_gs
  clear hall hb0_ hb1_ hb2_ hb3_ hb4_ hb5_ hb6_ hb7_ hb8_ hb9_ hb10_ hb11_ hb12_ hb13_
  replace HB := Aside0.mk (below_step HB.out KB_.out)
  replace HQ := Aside0.mk (blk_below HQ.out KB_.out)
  replace HU := Aside0.mk (blk_below HU.out KB_.out)
  have HY := F_g7
  clear F_g7 KB_ GE_g7 LT_g7 GE_gs LT_gs Z_gs NE_g7_gs HE5
  generalize w' = w5 at HB HQ HU HY ⊢
  have HE6 : Aside0 (∀ W g, W.heap[g]? = some (.cells #[.int .i64 4, .bool false, .int .i64 0, .string ⟨#[]⟩, .string p4, .string p5, .slice none 0 0, .int .i64 5, .bool false, .int .i64 0, .string ⟨#[114, 101, 115, 111, 117, 114, 99, 101]⟩, .string ⟨#[]⟩, .string ⟨#[]⟩, .slice none 0 0] 72 (0, 0)) → Calls Try.prog 43 #[.slice none 0 0, .agg #[.string p0, .string p1, .string p2, .string p3, .string p4, .string p5], .agg #[.int .i64 22, .bool false, .int .i64 0, .string ⟨#[]⟩, .string ⟨#[]⟩, .string ⟨#[]⟩, .slice (some ⟨g, 0, none⟩) 2 2]] W fun e w' => e = .returned (.tuple #[.agg #[.int .i64 1, .bool true, .int .i64 0, .string ⟨#[]⟩, .string ⟨#[]⟩, .string ⟨#[]⟩, .slice none 0 0], .int .i64 0]) ∧ Below W.heap.size W w') := ⟨fun W g hk => Expr_calls none 0 0 p0 p1 p2 p3 p4 p5 22 false 0 ⟨#[]⟩ ⟨#[]⟩ ⟨#[]⟩ (.slice (some ⟨g, 0, none⟩) 2 2) ⟨1, true, 0, ⟨#[]⟩, ⟨#[]⟩, ⟨#[]⟩⟩ 0 W (expr_two none 0 0 p0 p1 p2 p3 p4 p5 22 false 0 ⟨#[]⟩ ⟨#[]⟩ ⟨#[]⟩ g 2 4 false 0 ⟨#[]⟩ p4 p5 (.slice none 0 0) 5 false 0 ⟨#[114, 101, 115, 111, 117, 114, 99, 101]⟩ ⟨#[]⟩ ⟨#[]⟩ (.slice none 0 0) ⟨4, false, 0, ⟨#[]⟩, p4, p5⟩ ⟨4, false, 0, ⟨#[]⟩, p4, p5⟩ ⟨1, true, 0, ⟨#[]⟩, ⟨#[]⟩, ⟨#[]⟩⟩ 0 (by decide) (by decide) W hk
    (expr_leaf none 0 0 p0 p1 p2 p3 p4 p5 4 false 0 ⟨#[]⟩ p4 p5 (.slice none 0 0) ⟨4, false, 0, ⟨#[]⟩, p4, p5⟩ (by decide) (fun W => leaf_uid none 0 0 p0 p1 p2 p3 p4 p5 false 0 ⟨#[]⟩ p4 p5 (.slice none 0 0) W) W)
    (expr_leaf none 0 0 p0 p1 p2 p3 p4 p5 5 false 0 ⟨#[114, 101, 115, 111, 117, 114, 99, 101]⟩ ⟨#[]⟩ ⟨#[]⟩ (.slice none 0 0) ⟨4, false, 0, ⟨#[]⟩, p4, p5⟩ (by decide) (fun W => leaf_resource none 0 0 p0 p1 p2 p3 p4 p5 false 0 ⟨#[]⟩ ⟨#[]⟩ (.slice none 0 0) W) W)
    (double_in none 0 0 p0 p1 p2 p3 p4 p5 false 0 ⟨#[]⟩ p4 p5 false 0 ⟨#[]⟩ p4 p5 true W (fun W2 _ => in_self ⟨p4, p5⟩ ▸ GA.in_calls0 [] (by decide) ⟨p4, p5⟩ ⟨p4, p5⟩ HO2.out HO2.out none 0 W2 (Nat.le_refl _) (Kd.C_nil _ _))))⟩
  go_upto_region 6 with (fail)
  replace HB : Aside0 (Below w.heap.size w w5.drew) := ⟨below_drew1 HB.out⟩
  replace HQ : Aside0 (w5.drew.heap[g5]? = some (.cells #[.string p0, .string p1, .string p2, .string p3, .string p4, .string p5] 77 (0, 0))) := ⟨HQ.out⟩
  replace HU : Aside0 (w5.drew.heap[g6]? = some (.cells #[.string p4, .string p5] 28 (0, 0))) := ⟨HU.out⟩
  replace HY : Aside0 (w5.drew.heap[g7]? = some (.cells #[.int .i64 4, .bool false, .int .i64 0, .string ⟨#[]⟩, .string p4, .string p5, .slice none 0 0] 55 (0, 0))) := ⟨HY.out⟩
  refine start_ (n := 18) (S := fun w' => True) (ds := []) #[false, false, false, false, false, false, false, false, false, false, false, false, false, false, false, false, false, false] (by kernel_rfl) rfl rfl trivial (fun hHeld => ?_)
  refine with_tabW rw6_tab rw6_bits (fun HT_ HW_ => ?_)
  generalize w5.drew = wd at HB HQ HU HY hHeld ⊢
  have KB_ := Aside0.mk (Below.refl wd.heap.size wd)
  refine inv_at [0, 1, 2, 3, 4, 5, 6, 7, 8, 9, 10, 11, 12, 13, 14, 15, 16, 17] (fun a0_ b a w' => ∃ (gs : Nat) (gk : Nat) (g9 : Nat) (m3_ : Value) (m6_ : Value) (m9_ : Value) (m10_ : Value) (m15_ : Value), a = putSel a0_ b [(0, 39, .agg #[.string p0, .string p1, .string p2, .string p3, .string p4, .string p5]), (1, 40, .agg #[.string p4, .string p5]), (2, 41, .agg #[.int .i64 4, .bool false, .int .i64 0, .string ⟨#[]⟩, .string p4, .string p5, .slice none 0 0]), (3, 42, m3_), (4, 43, .int .i64 n), (5, 44, .int .i64 2), (6, 45, m6_), (7, 46, .string ⟨#[114, 101, 115, 111, 117, 114, 99, 101]⟩), (8, 47, .agg #[.int .i64 5, .bool false, .int .i64 0, .string ⟨#[114, 101, 115, 111, 117, 114, 99, 101]⟩, .string ⟨#[]⟩, .string ⟨#[]⟩, .slice none 0 0]), (9, 48, m9_), (10, 49, m10_), (11, 50, .tuple #[.agg #[.int .i64 1, .bool true, .int .i64 0, .string ⟨#[]⟩, .string ⟨#[]⟩, .string ⟨#[]⟩, .slice none 0 0], .int .i64 0]), (12, 38, .tuple #[.agg #[.int .i64 1, .bool true, .int .i64 0, .string ⟨#[]⟩, .string ⟨#[]⟩, .string ⟨#[]⟩, .slice none 0 0], .int .i64 0]), (13, 51, .agg #[.int .i64 1, .bool true, .int .i64 0, .string ⟨#[]⟩, .string ⟨#[]⟩, .string ⟨#[]⟩, .slice none 0 0]), (14, 52, .int .i64 0), (15, 9, m15_), (17, 10, .int .i64 0)] ∧ (Below wd.heap.size wd w') ∧ (b 3 = true → wd.heap.size ≤ gs) ∧ (b 3 = true → gs < w'.heap.size) ∧ (b 3 = true → w'.heap[gs]? = some (.cells #[.string ⟨#[112, 114, 105, 110, 99, 105, 112, 97, 108]⟩, .string ⟨#[97, 99, 116, 105, 111, 110]⟩, .string ⟨#[114, 101, 115, 111, 117, 114, 99, 101]⟩] 9 (0, 0))) ∧ (b 9 = true → wd.heap.size ≤ gk) ∧ (b 9 = true → gk < w'.heap.size) ∧ (b 9 = true → w'.heap[gk]? = some (.cells #[.int .i64 4, .bool false, .int .i64 0, .string ⟨#[]⟩, .string p4, .string p5, .slice none 0 0, .int .i64 5, .bool false, .int .i64 0, .string ⟨#[114, 101, 115, 111, 117, 114, 99, 101]⟩, .string ⟨#[]⟩, .string ⟨#[]⟩, .slice none 0 0] 72 (0, 0))) ∧ (b 15 = true → wd.heap.size ≤ g9) ∧ (b 15 = true → g9 < w'.heap.size) ∧ (b 15 = true → b 16 = false → w'.heap[g9]? = some (.cells #[.int .i64 0, .bool false, .int .i64 0, .string ⟨#[]⟩, .string ⟨#[]⟩, .string ⟨#[]⟩, .slice none 0 0] 55 (0, 0))) ∧ (b 16 = true → w'.heap[g9]? = some (.cells #[.int .i64 1, .bool true, .int .i64 0, .string ⟨#[]⟩, .string ⟨#[]⟩, .string ⟨#[]⟩, .slice none 0 0] 55 (0, 0))) ∧ (b 15 = true → b 3 = true → g9 ≠ gs) ∧ (b 15 = true → b 9 = true → g9 ≠ gk) ∧ (b 3 = true → (m3_ : Value) = .slice (some ⟨gs, 0, none⟩) 3 3) ∧ (b 6 = true → (m6_ : Value) = .pointer (some ⟨gs, 2, none⟩)) ∧ (b 9 = true → (m9_ : Value) = .slice (some ⟨gk, 0, none⟩) 2 2) ∧ (b 10 = true → (m10_ : Value) = .agg #[.int .i64 22, .bool false, .int .i64 0, .string ⟨#[]⟩, .string ⟨#[]⟩, .string ⟨#[]⟩, .slice (some ⟨gk, 0, none⟩) 2 2]) ∧ (b 15 = true → (m15_ : Value) = .pointer (some ⟨g9, 0, none⟩))) HT_.out HW_.out (by kernel_rfl) (by kernel_rfl) ?_ ?_ ?_
  · exact ⟨0, 0, 0, .bool false, .bool false, .bool false, .bool false, .bool false, by simp only [putSel, Bool.false_eq_true, if_false], KB_.out, fun h_ => absurd h_ (by decide), fun h_ => absurd h_ (by decide), fun h_ => absurd h_ (by decide), fun h_ => absurd h_ (by decide), fun h_ => absurd h_ (by decide), fun h_ => absurd h_ (by decide), fun h_ => absurd h_ (by decide), fun h_ => absurd h_ (by decide), fun h_ => absurd h_ (by decide), fun h_ => absurd h_ (by decide), fun h_ => absurd h_ (by decide), fun h_ => absurd h_ (by decide), fun h_ => absurd h_ (by decide), fun h_ => absurd h_ (by decide), fun h_ => absurd h_ (by decide), fun h_ => absurd h_ (by decide), fun h_ => absurd h_ (by decide)⟩
  · skip
    clear KB_
    refine steps_cons ?_ ?_
    · rintro b a w' ⟨gs, gk, g9, m3_, m6_, m9_, m10_, m15_, ha, Q_KB_, Q_GE_gs, Q_LT_gs, Q_Z_gs, Q_GE_gk, Q_LT_gk, Q_Z_gk, Q_GE_g9, Q_LT_g9, Q_Z_g9, Q_F_g9, Q_NE_g9_gs, Q_NE_g9_gk, Q_X3_, Q_X6_, Q_X9_, Q_X10_, Q_X15_⟩ hb_ hon hoff
      refine ⟨_, rfl, fun K hK => ?_⟩
      have e5 : a.tmps[5]? = some (.pointer (some ⟨g5, 0, none⟩)) := by rw [ha]; exact (putSel_off rfl).trans rfl
      replace ha := Aside0.mk ha
      have KB_ := Aside0.mk Q_KB_
      have c0_ : w'.cell? ⟨g5, 0, none⟩ = some (.string p0) := (blk_cell (blk_below HQ.out KB_.out) 0).trans rfl
      have c1_ : w'.cell? ⟨g5, 1, none⟩ = some (.string p1) := (blk_cell (blk_below HQ.out KB_.out) 1).trans rfl
      have c2_ : w'.cell? ⟨g5, 2, none⟩ = some (.string p2) := (blk_cell (blk_below HQ.out KB_.out) 2).trans rfl
      have c3_ : w'.cell? ⟨g5, 3, none⟩ = some (.string p3) := (blk_cell (blk_below HQ.out KB_.out) 3).trans rfl
      have c4_ : w'.cell? ⟨g5, 4, none⟩ = some (.string p4) := (blk_cell (blk_below HQ.out KB_.out) 4).trans rfl
      have c5_ : w'.cell? ⟨g5, 5, none⟩ = some (.string p5) := (blk_cell (blk_below HQ.out KB_.out) 5).trans rfl
      refine value_ (w1 := w') (v := .agg #[.string p0, .string p1, .string p2, .string p3, .string p4, .string p5]) (by rfl) rfl ?_ ?_
      · go_simp
        (try simp only [i64_w])
        try rfl
      refine hK.out _ _ ⟨gs, gk, g9, m3_, m6_, m9_, m10_, m15_, (by rw [ha.out]; exact putSel_upk 0 hb_ rfl rfl rfl), Q_KB_, Q_GE_gs, Q_LT_gs, Q_Z_gs, Q_GE_gk, Q_LT_gk, Q_Z_gk, Q_GE_g9, Q_LT_g9, Q_Z_g9, fun h0_ => absurd ((hoff 16 (by kernel_rfl)).symm.trans h0_) (by decide), Q_NE_g9_gs, Q_NE_g9_gk, Q_X3_, Q_X6_, Q_X9_, Q_X10_, Q_X15_⟩
    refine steps_cons ?_ ?_
    · rintro b a w' ⟨gs, gk, g9, m3_, m6_, m9_, m10_, m15_, ha, Q_KB_, Q_GE_gs, Q_LT_gs, Q_Z_gs, Q_GE_gk, Q_LT_gk, Q_Z_gk, Q_GE_g9, Q_LT_g9, Q_Z_g9, Q_F_g9, Q_NE_g9_gs, Q_NE_g9_gk, Q_X3_, Q_X6_, Q_X9_, Q_X10_, Q_X15_⟩ hb_ hon hoff
      refine ⟨_, rfl, fun K hK => ?_⟩
      have e6 : a.tmps[6]? = some (.pointer (some ⟨g6, 0, none⟩)) := by rw [ha]; exact (putSel_off rfl).trans rfl
      replace ha := Aside0.mk ha
      have KB_ := Aside0.mk Q_KB_
      have c0_ : w'.cell? ⟨g6, 0, none⟩ = some (.string p4) := (blk_cell (blk_below HU.out KB_.out) 0).trans rfl
      have c1_ : w'.cell? ⟨g6, 1, none⟩ = some (.string p5) := (blk_cell (blk_below HU.out KB_.out) 1).trans rfl
      refine value_ (w1 := w') (v := .agg #[.string p4, .string p5]) (by rfl) rfl ?_ ?_
      · go_simp
        (try simp only [i64_w])
        try rfl
      refine hK.out _ _ ⟨gs, gk, g9, m3_, m6_, m9_, m10_, m15_, (by rw [ha.out]; exact putSel_upk 1 hb_ rfl rfl rfl), Q_KB_, Q_GE_gs, Q_LT_gs, Q_Z_gs, fun h0_ => absurd ((hoff 9 (by kernel_rfl)).symm.trans h0_) (by decide), fun h0_ => absurd ((hoff 9 (by kernel_rfl)).symm.trans h0_) (by decide), fun h0_ => absurd ((hoff 9 (by kernel_rfl)).symm.trans h0_) (by decide), Q_GE_g9, Q_LT_g9, Q_Z_g9, fun h0_ => absurd ((hoff 16 (by kernel_rfl)).symm.trans h0_) (by decide), Q_NE_g9_gs, fun _ h1_ => absurd ((hoff 9 (by kernel_rfl)).symm.trans h1_) (by decide), Q_X3_, Q_X6_, fun h0_ => absurd ((hoff 9 (by kernel_rfl)).symm.trans h0_) (by decide), fun h0_ => absurd ((hoff 10 (by kernel_rfl)).symm.trans h0_) (by decide), Q_X15_⟩
    refine steps_cons ?_ ?_
    · rintro b a w' ⟨gs, gk, g9, m3_, m6_, m9_, m10_, m15_, ha, Q_KB_, Q_GE_gs, Q_LT_gs, Q_Z_gs, Q_GE_gk, Q_LT_gk, Q_Z_gk, Q_GE_g9, Q_LT_g9, Q_Z_g9, Q_F_g9, Q_NE_g9_gs, Q_NE_g9_gk, Q_X3_, Q_X6_, Q_X9_, Q_X10_, Q_X15_⟩ hb_ hon hoff
      refine ⟨_, rfl, fun K hK => ?_⟩
      have e40 : a.tmps[40]? = some (.agg #[.string p4, .string p5]) := by rw [ha]; exact putSel_on (e := (1, 40, .agg #[.string p4, .string p5])) 1 rfl rfl (hon 1 (by kernel_rfl)) rfl
      replace ha := Aside0.mk ha
      have KB_ := Aside0.mk Q_KB_
      refine value_ (w1 := w') (v := .agg #[.int .i64 4, .bool false, .int .i64 0, .string ⟨#[]⟩, .string p4, .string p5, .slice none 0 0]) (by rfl) rfl ?_ ?_
      · go_simp
        (try simp only [i64_w])
        try rfl
      refine hK.out _ _ ⟨gs, gk, g9, m3_, m6_, m9_, m10_, m15_, (by rw [ha.out]; exact putSel_upk 2 hb_ rfl rfl rfl), Q_KB_, Q_GE_gs, Q_LT_gs, Q_Z_gs, fun h0_ => absurd ((hoff 9 (by kernel_rfl)).symm.trans h0_) (by decide), fun h0_ => absurd ((hoff 9 (by kernel_rfl)).symm.trans h0_) (by decide), fun h0_ => absurd ((hoff 9 (by kernel_rfl)).symm.trans h0_) (by decide), Q_GE_g9, Q_LT_g9, Q_Z_g9, fun h0_ => absurd ((hoff 16 (by kernel_rfl)).symm.trans h0_) (by decide), Q_NE_g9_gs, fun _ h1_ => absurd ((hoff 9 (by kernel_rfl)).symm.trans h1_) (by decide), Q_X3_, Q_X6_, fun h0_ => absurd ((hoff 9 (by kernel_rfl)).symm.trans h0_) (by decide), fun h0_ => absurd ((hoff 10 (by kernel_rfl)).symm.trans h0_) (by decide), Q_X15_⟩
    refine steps_cons ?_ ?_
    · rintro b a w' ⟨gs, gk, g9, m3_, m6_, m9_, m10_, m15_, ha, Q_KB_, Q_GE_gs, Q_LT_gs, Q_Z_gs, Q_GE_gk, Q_LT_gk, Q_Z_gk, Q_GE_g9, Q_LT_g9, Q_Z_g9, Q_F_g9, Q_NE_g9_gs, Q_NE_g9_gk, Q_X3_, Q_X6_, Q_X9_, Q_X10_, Q_X15_⟩ hb_ hon hoff
      refine ⟨_, rfl, fun K hK => ?_⟩
      replace ha := Aside0.mk ha
      have KB_ := Aside0.mk Q_KB_
      refine value_ (w1 := w'.alloc (.cells #[.string ⟨#[112, 114, 105, 110, 99, 105, 112, 97, 108]⟩, .string ⟨#[97, 99, 116, 105, 111, 110]⟩, .string ⟨#[114, 101, 115, 111, 117, 114, 99, 101]⟩] 9)) (v := .slice (some ⟨w'.heap.size, 0, none⟩) 3 3) (by rfl) rfl ?_ ?_
      · first | (go_simp; done) | (go_simp; rfl) | (go_simp; constructor <;> rfl)
      have hbox : (w'.alloc (.cells #[.string ⟨#[112, 114, 105, 110, 99, 105, 112, 97, 108]⟩, .string ⟨#[97, 99, 116, 105, 111, 110]⟩, .string ⟨#[114, 101, 115, 111, 117, 114, 99, 101]⟩] 9)).heap[w'.heap.size]? = some (.cells #[.string ⟨#[112, 114, 105, 110, 99, 105, 112, 97, 108]⟩, .string ⟨#[97, 99, 116, 105, 111, 110]⟩, .string ⟨#[114, 101, 115, 111, 117, 114, 99, 101]⟩] 9 (0, 0)) := blk_new _ _
      have hb : Below w'.heap.size w' (w'.alloc (.cells #[.string ⟨#[112, 114, 105, 110, 99, 105, 112, 97, 108]⟩, .string ⟨#[97, 99, 116, 105, 111, 110]⟩, .string ⟨#[114, 101, 115, 111, 117, 114, 99, 101]⟩] 9)) := below_alloc (Below.refl _ _) _
      generalize w'.alloc (.cells #[.string ⟨#[112, 114, 105, 110, 99, 105, 112, 97, 108]⟩, .string ⟨#[97, 99, 116, 105, 111, 110]⟩, .string ⟨#[114, 101, 115, 111, 117, 114, 99, 101]⟩] 9) = w2 at hbox hb ⊢
      have hle := (KB_.out).size
      generalize hg_ : w'.heap.size = gsn at hbox hle ⊢
      have z_NE_g9_gs := fun (h0_ : up b 3 15 = true) (h1_ : up b 3 3 = true) => (show g9 ≠ gsn from by have h_ := Q_LT_g9 h0_; omega)
      refine hK.out _ _ ⟨gsn, gk, g9, (.slice (some ⟨gsn, 0, none⟩) 3 3), m6_, m9_, m10_, m15_, (by rw [ha.out]; exact putSel_upk 3 hb_ rfl rfl rfl), below_step KB_.out hb, fun _ => hle, fun _ => blk_lt hbox, fun _ => hbox, fun h0_ => absurd ((hoff 9 (by kernel_rfl)).symm.trans h0_) (by decide), fun h0_ => absurd ((hoff 9 (by kernel_rfl)).symm.trans h0_) (by decide), fun h0_ => absurd ((hoff 9 (by kernel_rfl)).symm.trans h0_) (by decide), Q_GE_g9, fun h0_ => Nat.lt_of_lt_of_le (Q_LT_g9 h0_) hb.size, fun h0_ h1_ => blk_below (Q_Z_g9 h0_ h1_) hb, fun h0_ => absurd ((hoff 16 (by kernel_rfl)).symm.trans h0_) (by decide), fun _ _ => z_NE_g9_gs (by assumption) (by assumption), fun _ h1_ => absurd ((hoff 9 (by kernel_rfl)).symm.trans h1_) (by decide), fun _ => rfl, fun h0_ => absurd ((hoff 6 (by kernel_rfl)).symm.trans h0_) (by decide), fun h0_ => absurd ((hoff 9 (by kernel_rfl)).symm.trans h0_) (by decide), fun h0_ => absurd ((hoff 10 (by kernel_rfl)).symm.trans h0_) (by decide), Q_X15_⟩
    refine steps_cons ?_ ?_
    · rintro b a w' ⟨gs, gk, g9, m3_, m6_, m9_, m10_, m15_, ha, Q_KB_, Q_GE_gs, Q_LT_gs, Q_Z_gs, Q_GE_gk, Q_LT_gk, Q_Z_gk, Q_GE_g9, Q_LT_g9, Q_Z_g9, Q_F_g9, Q_NE_g9_gs, Q_NE_g9_gk, Q_X3_, Q_X6_, Q_X9_, Q_X10_, Q_X15_⟩ hb_ hon hoff
      refine ⟨_, rfl, fun K hK => ?_⟩
      have e1 : a.tmps[1]? = some (.int .i64 n) := by rw [ha]; exact (putSel_off rfl).trans rfl
      replace ha := Aside0.mk ha
      have KB_ := Aside0.mk Q_KB_
      refine value_ (w1 := w') (v := .int .i64 n) (by rfl) rfl ?_ ?_
      · go_simp
        (try simp only [i64_w])
        try rfl
      refine hK.out _ _ ⟨gs, gk, g9, m3_, m6_, m9_, m10_, m15_, (by rw [ha.out]; exact putSel_upk 4 hb_ rfl rfl rfl), Q_KB_, Q_GE_gs, Q_LT_gs, Q_Z_gs, fun h0_ => absurd ((hoff 9 (by kernel_rfl)).symm.trans h0_) (by decide), fun h0_ => absurd ((hoff 9 (by kernel_rfl)).symm.trans h0_) (by decide), fun h0_ => absurd ((hoff 9 (by kernel_rfl)).symm.trans h0_) (by decide), Q_GE_g9, Q_LT_g9, Q_Z_g9, fun h0_ => absurd ((hoff 16 (by kernel_rfl)).symm.trans h0_) (by decide), Q_NE_g9_gs, fun _ h1_ => absurd ((hoff 9 (by kernel_rfl)).symm.trans h1_) (by decide), Q_X3_, fun h0_ => absurd ((hoff 6 (by kernel_rfl)).symm.trans h0_) (by decide), fun h0_ => absurd ((hoff 9 (by kernel_rfl)).symm.trans h0_) (by decide), fun h0_ => absurd ((hoff 10 (by kernel_rfl)).symm.trans h0_) (by decide), Q_X15_⟩
    refine steps_cons ?_ ?_
    · rintro b a w' ⟨gs, gk, g9, m3_, m6_, m9_, m10_, m15_, ha, Q_KB_, Q_GE_gs, Q_LT_gs, Q_Z_gs, Q_GE_gk, Q_LT_gk, Q_Z_gk, Q_GE_g9, Q_LT_g9, Q_Z_g9, Q_F_g9, Q_NE_g9_gs, Q_NE_g9_gk, Q_X3_, Q_X6_, Q_X9_, Q_X10_, Q_X15_⟩ hb_ hon hoff
      refine ⟨_, rfl, fun K hK => ?_⟩
      have e43 : a.tmps[43]? = some (.int .i64 n) := by rw [ha]; exact putSel_on (e := (4, 43, .int .i64 n)) 4 rfl rfl (hon 4 (by kernel_rfl)) rfl
      replace ha := Aside0.mk ha
      have KB_ := Aside0.mk Q_KB_
      refine goes_ Try.func42 (by kernel_rfl) rfl #[.int .i64 n, .int .i64 3] (by rfl) rfl rfl (by first | (simp only [List.map_toArray, List.map_cons, List.map_nil, Act.eval, Array.getD_eq_getD_getElem?, Option.getD_some, e43]; done) | (simp only [List.map_toArray, List.map_cons, List.map_nil, Act.eval, Array.getD_eq_getD_getElem?, Option.getD_some, e43]; rfl)) ?_
      refine (HW.out _).mono ?_
      rintro e w2 ⟨rfl, hw⟩
      rw [hw]
      clear hw
      refine ⟨_, rfl, ?_⟩
      refine hK.out _ _ ⟨gs, gk, g9, m3_, m6_, m9_, m10_, m15_, (by rw [ha.out]; exact putSel_upk 5 hb_ rfl rfl rfl), KB_.out, Q_GE_gs, fun h0_ => (Q_LT_gs h0_), fun h0_ => (Q_Z_gs h0_), fun h0_ => absurd ((hoff 9 (by kernel_rfl)).symm.trans h0_) (by decide), fun h0_ => absurd ((hoff 9 (by kernel_rfl)).symm.trans h0_) (by decide), fun h0_ => absurd ((hoff 9 (by kernel_rfl)).symm.trans h0_) (by decide), Q_GE_g9, fun h0_ => (Q_LT_g9 h0_), fun h0_ h1_ => (Q_Z_g9 h0_ h1_), fun h0_ => absurd ((hoff 16 (by kernel_rfl)).symm.trans h0_) (by decide), Q_NE_g9_gs, fun _ h1_ => absurd ((hoff 9 (by kernel_rfl)).symm.trans h1_) (by decide), Q_X3_, fun h0_ => absurd ((hoff 6 (by kernel_rfl)).symm.trans h0_) (by decide), fun h0_ => absurd ((hoff 9 (by kernel_rfl)).symm.trans h0_) (by decide), fun h0_ => absurd ((hoff 10 (by kernel_rfl)).symm.trans h0_) (by decide), Q_X15_⟩
    refine steps_cons ?_ ?_
    · rintro b a w' ⟨gs, gk, g9, m3_, m6_, m9_, m10_, m15_, ha, Q_KB_, Q_GE_gs, Q_LT_gs, Q_Z_gs, Q_GE_gk, Q_LT_gk, Q_Z_gk, Q_GE_g9, Q_LT_g9, Q_Z_g9, Q_F_g9, Q_NE_g9_gs, Q_NE_g9_gk, Q_X3_, Q_X6_, Q_X9_, Q_X10_, Q_X15_⟩ hb_ hon hoff
      refine ⟨_, rfl, fun K hK => ?_⟩
      have e42 : a.tmps[42]? = some (m3_) := by rw [ha]; exact putSel_on (e := (3, 42, m3_)) 3 rfl rfl (hon 3 (by kernel_rfl)) rfl
      rw [Q_X3_ (hon 3 (by kernel_rfl))] at e42
      have e44 : a.tmps[44]? = some (.int .i64 2) := by rw [ha]; exact putSel_on (e := (5, 44, .int .i64 2)) 5 rfl rfl (hon 5 (by kernel_rfl)) rfl
      replace ha := Aside0.mk ha
      have KB_ := Aside0.mk Q_KB_
      have GE_gs := Aside0.mk (Q_GE_gs (hon 3 (by kernel_rfl)))
      have LT_gs := Aside0.mk (Q_LT_gs (hon 3 (by kernel_rfl)))
      have Z_gs := Aside0.mk (Q_Z_gs (hon 3 (by kernel_rfl)))
      refine value_ (w1 := w') (v := .pointer (some ⟨gs, 2, none⟩)) (by rfl) rfl ?_ ?_
      · go_simp
        (try simp only [i64_w])
        try rfl
      refine hK.out _ _ ⟨gs, gk, g9, m3_, (.pointer (some ⟨gs, 2, none⟩)), m9_, m10_, m15_, (by rw [ha.out]; exact putSel_upk 6 hb_ rfl rfl rfl), Q_KB_, Q_GE_gs, Q_LT_gs, Q_Z_gs, fun h0_ => absurd ((hoff 9 (by kernel_rfl)).symm.trans h0_) (by decide), fun h0_ => absurd ((hoff 9 (by kernel_rfl)).symm.trans h0_) (by decide), fun h0_ => absurd ((hoff 9 (by kernel_rfl)).symm.trans h0_) (by decide), Q_GE_g9, Q_LT_g9, Q_Z_g9, fun h0_ => absurd ((hoff 16 (by kernel_rfl)).symm.trans h0_) (by decide), Q_NE_g9_gs, fun _ h1_ => absurd ((hoff 9 (by kernel_rfl)).symm.trans h1_) (by decide), Q_X3_, fun _ => rfl, fun h0_ => absurd ((hoff 9 (by kernel_rfl)).symm.trans h0_) (by decide), fun h0_ => absurd ((hoff 10 (by kernel_rfl)).symm.trans h0_) (by decide), Q_X15_⟩
    refine steps_cons ?_ ?_
    · rintro b a w' ⟨gs, gk, g9, m3_, m6_, m9_, m10_, m15_, ha, Q_KB_, Q_GE_gs, Q_LT_gs, Q_Z_gs, Q_GE_gk, Q_LT_gk, Q_Z_gk, Q_GE_g9, Q_LT_g9, Q_Z_g9, Q_F_g9, Q_NE_g9_gs, Q_NE_g9_gk, Q_X3_, Q_X6_, Q_X9_, Q_X10_, Q_X15_⟩ hb_ hon hoff
      refine ⟨_, rfl, fun K hK => ?_⟩
      have e45 : a.tmps[45]? = some (m6_) := by rw [ha]; exact putSel_on (e := (6, 45, m6_)) 6 rfl rfl (hon 6 (by kernel_rfl)) rfl
      rw [Q_X6_ (hon 6 (by kernel_rfl))] at e45
      replace ha := Aside0.mk ha
      have KB_ := Aside0.mk Q_KB_
      have GE_gs := Aside0.mk (Q_GE_gs (hon 3 (by kernel_rfl)))
      have LT_gs := Aside0.mk (Q_LT_gs (hon 3 (by kernel_rfl)))
      have Z_gs := Aside0.mk (Q_Z_gs (hon 3 (by kernel_rfl)))
      have c0_ : w'.cell? ⟨gs, 2, none⟩ = some (.string ⟨#[114, 101, 115, 111, 117, 114, 99, 101]⟩) := (blk_cell Z_gs.out 2).trans rfl
      refine value_ (w1 := w') (v := .string ⟨#[114, 101, 115, 111, 117, 114, 99, 101]⟩) (by rfl) rfl ?_ ?_
      · go_simp
        (try simp only [i64_w])
        try rfl
      refine hK.out _ _ ⟨gs, gk, g9, m3_, m6_, m9_, m10_, m15_, (by rw [ha.out]; exact putSel_upk 7 hb_ rfl rfl rfl), Q_KB_, Q_GE_gs, Q_LT_gs, Q_Z_gs, fun h0_ => absurd ((hoff 9 (by kernel_rfl)).symm.trans h0_) (by decide), fun h0_ => absurd ((hoff 9 (by kernel_rfl)).symm.trans h0_) (by decide), fun h0_ => absurd ((hoff 9 (by kernel_rfl)).symm.trans h0_) (by decide), Q_GE_g9, Q_LT_g9, Q_Z_g9, fun h0_ => absurd ((hoff 16 (by kernel_rfl)).symm.trans h0_) (by decide), Q_NE_g9_gs, fun _ h1_ => absurd ((hoff 9 (by kernel_rfl)).symm.trans h1_) (by decide), Q_X3_, Q_X6_, fun h0_ => absurd ((hoff 9 (by kernel_rfl)).symm.trans h0_) (by decide), fun h0_ => absurd ((hoff 10 (by kernel_rfl)).symm.trans h0_) (by decide), Q_X15_⟩
    refine steps_cons ?_ ?_
    · rintro b a w' ⟨gs, gk, g9, m3_, m6_, m9_, m10_, m15_, ha, Q_KB_, Q_GE_gs, Q_LT_gs, Q_Z_gs, Q_GE_gk, Q_LT_gk, Q_Z_gk, Q_GE_g9, Q_LT_g9, Q_Z_g9, Q_F_g9, Q_NE_g9_gs, Q_NE_g9_gk, Q_X3_, Q_X6_, Q_X9_, Q_X10_, Q_X15_⟩ hb_ hon hoff
      refine ⟨_, rfl, fun K hK => ?_⟩
      have e46 : a.tmps[46]? = some (.string ⟨#[114, 101, 115, 111, 117, 114, 99, 101]⟩) := by rw [ha]; exact putSel_on (e := (7, 46, .string ⟨#[114, 101, 115, 111, 117, 114, 99, 101]⟩)) 7 rfl rfl (hon 7 (by kernel_rfl)) rfl
      replace ha := Aside0.mk ha
      have KB_ := Aside0.mk Q_KB_
      have GE_gs := Aside0.mk (Q_GE_gs (hon 3 (by kernel_rfl)))
      have LT_gs := Aside0.mk (Q_LT_gs (hon 3 (by kernel_rfl)))
      have Z_gs := Aside0.mk (Q_Z_gs (hon 3 (by kernel_rfl)))
      refine value_ (w1 := w') (v := .agg #[.int .i64 5, .bool false, .int .i64 0, .string ⟨#[114, 101, 115, 111, 117, 114, 99, 101]⟩, .string ⟨#[]⟩, .string ⟨#[]⟩, .slice none 0 0]) (by rfl) rfl ?_ ?_
      · go_simp
        (try simp only [i64_w])
        try rfl
      refine hK.out _ _ ⟨gs, gk, g9, m3_, m6_, m9_, m10_, m15_, (by rw [ha.out]; exact putSel_upk 8 hb_ rfl rfl rfl), Q_KB_, Q_GE_gs, Q_LT_gs, Q_Z_gs, fun h0_ => absurd ((hoff 9 (by kernel_rfl)).symm.trans h0_) (by decide), fun h0_ => absurd ((hoff 9 (by kernel_rfl)).symm.trans h0_) (by decide), fun h0_ => absurd ((hoff 9 (by kernel_rfl)).symm.trans h0_) (by decide), Q_GE_g9, Q_LT_g9, Q_Z_g9, fun h0_ => absurd ((hoff 16 (by kernel_rfl)).symm.trans h0_) (by decide), Q_NE_g9_gs, fun _ h1_ => absurd ((hoff 9 (by kernel_rfl)).symm.trans h1_) (by decide), Q_X3_, Q_X6_, fun h0_ => absurd ((hoff 9 (by kernel_rfl)).symm.trans h0_) (by decide), fun h0_ => absurd ((hoff 10 (by kernel_rfl)).symm.trans h0_) (by decide), Q_X15_⟩
    refine steps_cons ?_ ?_
    · rintro b a w' ⟨gs, gk, g9, m3_, m6_, m9_, m10_, m15_, ha, Q_KB_, Q_GE_gs, Q_LT_gs, Q_Z_gs, Q_GE_gk, Q_LT_gk, Q_Z_gk, Q_GE_g9, Q_LT_g9, Q_Z_g9, Q_F_g9, Q_NE_g9_gs, Q_NE_g9_gk, Q_X3_, Q_X6_, Q_X9_, Q_X10_, Q_X15_⟩ hb_ hon hoff
      refine ⟨_, rfl, fun K hK => ?_⟩
      have e41 : a.tmps[41]? = some (.agg #[.int .i64 4, .bool false, .int .i64 0, .string ⟨#[]⟩, .string p4, .string p5, .slice none 0 0]) := by rw [ha]; exact putSel_on (e := (2, 41, .agg #[.int .i64 4, .bool false, .int .i64 0, .string ⟨#[]⟩, .string p4, .string p5, .slice none 0 0])) 2 rfl rfl (hon 2 (by kernel_rfl)) rfl
      have e47 : a.tmps[47]? = some (.agg #[.int .i64 5, .bool false, .int .i64 0, .string ⟨#[114, 101, 115, 111, 117, 114, 99, 101]⟩, .string ⟨#[]⟩, .string ⟨#[]⟩, .slice none 0 0]) := by rw [ha]; exact putSel_on (e := (8, 47, .agg #[.int .i64 5, .bool false, .int .i64 0, .string ⟨#[114, 101, 115, 111, 117, 114, 99, 101]⟩, .string ⟨#[]⟩, .string ⟨#[]⟩, .slice none 0 0])) 8 rfl rfl (hon 8 (by kernel_rfl)) rfl
      replace ha := Aside0.mk ha
      have KB_ := Aside0.mk Q_KB_
      have GE_gs := Aside0.mk (Q_GE_gs (hon 3 (by kernel_rfl)))
      have LT_gs := Aside0.mk (Q_LT_gs (hon 3 (by kernel_rfl)))
      have Z_gs := Aside0.mk (Q_Z_gs (hon 3 (by kernel_rfl)))
      refine value_ (w1 := w'.alloc (.cells #[.int .i64 4, .bool false, .int .i64 0, .string ⟨#[]⟩, .string p4, .string p5, .slice none 0 0, .int .i64 5, .bool false, .int .i64 0, .string ⟨#[114, 101, 115, 111, 117, 114, 99, 101]⟩, .string ⟨#[]⟩, .string ⟨#[]⟩, .slice none 0 0] 72)) (v := .slice (some ⟨w'.heap.size, 0, none⟩) 2 2) (by rfl) rfl ?_ ?_
      · first | (go_simp; done) | (go_simp; rfl) | (go_simp; constructor <;> rfl)
      have hbox : (w'.alloc (.cells #[.int .i64 4, .bool false, .int .i64 0, .string ⟨#[]⟩, .string p4, .string p5, .slice none 0 0, .int .i64 5, .bool false, .int .i64 0, .string ⟨#[114, 101, 115, 111, 117, 114, 99, 101]⟩, .string ⟨#[]⟩, .string ⟨#[]⟩, .slice none 0 0] 72)).heap[w'.heap.size]? = some (.cells #[.int .i64 4, .bool false, .int .i64 0, .string ⟨#[]⟩, .string p4, .string p5, .slice none 0 0, .int .i64 5, .bool false, .int .i64 0, .string ⟨#[114, 101, 115, 111, 117, 114, 99, 101]⟩, .string ⟨#[]⟩, .string ⟨#[]⟩, .slice none 0 0] 72 (0, 0)) := blk_new _ _
      have hb : Below w'.heap.size w' (w'.alloc (.cells #[.int .i64 4, .bool false, .int .i64 0, .string ⟨#[]⟩, .string p4, .string p5, .slice none 0 0, .int .i64 5, .bool false, .int .i64 0, .string ⟨#[114, 101, 115, 111, 117, 114, 99, 101]⟩, .string ⟨#[]⟩, .string ⟨#[]⟩, .slice none 0 0] 72)) := below_alloc (Below.refl _ _) _
      generalize w'.alloc (.cells #[.int .i64 4, .bool false, .int .i64 0, .string ⟨#[]⟩, .string p4, .string p5, .slice none 0 0, .int .i64 5, .bool false, .int .i64 0, .string ⟨#[114, 101, 115, 111, 117, 114, 99, 101]⟩, .string ⟨#[]⟩, .string ⟨#[]⟩, .slice none 0 0] 72) = w2 at hbox hb ⊢
      have hle := (KB_.out).size
      generalize hg_ : w'.heap.size = gkn at hbox hle ⊢
      have z_NE_g9_gk := fun (h0_ : up b 9 15 = true) (h1_ : up b 9 9 = true) => (show g9 ≠ gkn from by have h_ := Q_LT_g9 h0_; omega)
      refine hK.out _ _ ⟨gs, gkn, g9, m3_, m6_, (.slice (some ⟨gkn, 0, none⟩) 2 2), m10_, m15_, (by rw [ha.out]; exact putSel_upk 9 hb_ rfl rfl rfl), below_step KB_.out hb, Q_GE_gs, fun _ => Nat.lt_of_lt_of_le LT_gs.out hb.size, fun _ => blk_below Z_gs.out hb, fun _ => hle, fun _ => blk_lt hbox, fun _ => hbox, Q_GE_g9, fun h0_ => Nat.lt_of_lt_of_le (Q_LT_g9 h0_) hb.size, fun h0_ h1_ => blk_below (Q_Z_g9 h0_ h1_) hb, fun h0_ => absurd ((hoff 16 (by kernel_rfl)).symm.trans h0_) (by decide), Q_NE_g9_gs, fun _ _ => z_NE_g9_gk (by assumption) (by assumption), Q_X3_, Q_X6_, fun _ => rfl, fun h0_ => absurd ((hoff 10 (by kernel_rfl)).symm.trans h0_) (by decide), Q_X15_⟩
    refine steps_cons ?_ ?_
    · rintro b a w' ⟨gs, gk, g9, m3_, m6_, m9_, m10_, m15_, ha, Q_KB_, Q_GE_gs, Q_LT_gs, Q_Z_gs, Q_GE_gk, Q_LT_gk, Q_Z_gk, Q_GE_g9, Q_LT_g9, Q_Z_g9, Q_F_g9, Q_NE_g9_gs, Q_NE_g9_gk, Q_X3_, Q_X6_, Q_X9_, Q_X10_, Q_X15_⟩ hb_ hon hoff
      refine ⟨_, rfl, fun K hK => ?_⟩
      have e48 : a.tmps[48]? = some (m9_) := by rw [ha]; exact putSel_on (e := (9, 48, m9_)) 9 rfl rfl (hon 9 (by kernel_rfl)) rfl
      rw [Q_X9_ (hon 9 (by kernel_rfl))] at e48
      replace ha := Aside0.mk ha
      have KB_ := Aside0.mk Q_KB_
      have GE_gs := Aside0.mk (Q_GE_gs (hon 3 (by kernel_rfl)))
      have LT_gs := Aside0.mk (Q_LT_gs (hon 3 (by kernel_rfl)))
      have Z_gs := Aside0.mk (Q_Z_gs (hon 3 (by kernel_rfl)))
      have GE_gk := Aside0.mk (Q_GE_gk (hon 9 (by kernel_rfl)))
      have LT_gk := Aside0.mk (Q_LT_gk (hon 9 (by kernel_rfl)))
      have Z_gk := Aside0.mk (Q_Z_gk (hon 9 (by kernel_rfl)))
      refine value_ (w1 := w') (v := .agg #[.int .i64 22, .bool false, .int .i64 0, .string ⟨#[]⟩, .string ⟨#[]⟩, .string ⟨#[]⟩, .slice (some ⟨gk, 0, none⟩) 2 2]) (by rfl) rfl ?_ ?_
      · go_simp
        (try simp only [i64_w])
        try rfl
      refine hK.out _ _ ⟨gs, gk, g9, m3_, m6_, m9_, (.agg #[.int .i64 22, .bool false, .int .i64 0, .string ⟨#[]⟩, .string ⟨#[]⟩, .string ⟨#[]⟩, .slice (some ⟨gk, 0, none⟩) 2 2]), m15_, (by rw [ha.out]; exact putSel_upk 10 hb_ rfl rfl rfl), Q_KB_, Q_GE_gs, Q_LT_gs, Q_Z_gs, Q_GE_gk, Q_LT_gk, Q_Z_gk, Q_GE_g9, Q_LT_g9, Q_Z_g9, fun h0_ => absurd ((hoff 16 (by kernel_rfl)).symm.trans h0_) (by decide), Q_NE_g9_gs, Q_NE_g9_gk, Q_X3_, Q_X6_, Q_X9_, fun _ => rfl, Q_X15_⟩
    refine steps_cons ?_ ?_
    · rintro b a w' ⟨gs, gk, g9, m3_, m6_, m9_, m10_, m15_, ha, Q_KB_, Q_GE_gs, Q_LT_gs, Q_Z_gs, Q_GE_gk, Q_LT_gk, Q_Z_gk, Q_GE_g9, Q_LT_g9, Q_Z_g9, Q_F_g9, Q_NE_g9_gs, Q_NE_g9_gk, Q_X3_, Q_X6_, Q_X9_, Q_X10_, Q_X15_⟩ hb_ hon hoff
      refine ⟨_, rfl, fun K hK => ?_⟩
      have e39 : a.tmps[39]? = some (.agg #[.string p0, .string p1, .string p2, .string p3, .string p4, .string p5]) := by rw [ha]; exact putSel_on (e := (0, 39, .agg #[.string p0, .string p1, .string p2, .string p3, .string p4, .string p5])) 0 rfl rfl (hon 0 (by kernel_rfl)) rfl
      have e49 : a.tmps[49]? = some (m10_) := by rw [ha]; exact putSel_on (e := (10, 49, m10_)) 10 rfl rfl (hon 10 (by kernel_rfl)) rfl
      rw [Q_X10_ (hon 10 (by kernel_rfl))] at e49
      replace ha := Aside0.mk ha
      have KB_ := Aside0.mk Q_KB_
      have GE_gs := Aside0.mk (Q_GE_gs (hon 3 (by kernel_rfl)))
      have LT_gs := Aside0.mk (Q_LT_gs (hon 3 (by kernel_rfl)))
      have Z_gs := Aside0.mk (Q_Z_gs (hon 3 (by kernel_rfl)))
      have GE_gk := Aside0.mk (Q_GE_gk (hon 9 (by kernel_rfl)))
      have LT_gk := Aside0.mk (Q_LT_gk (hon 9 (by kernel_rfl)))
      have Z_gk := Aside0.mk (Q_Z_gk (hon 9 (by kernel_rfl)))
      refine goes_ Try.func43 (by kernel_rfl) rfl #[.slice none 0 0, .agg #[.string p0, .string p1, .string p2, .string p3, .string p4, .string p5], .agg #[.int .i64 22, .bool false, .int .i64 0, .string ⟨#[]⟩, .string ⟨#[]⟩, .string ⟨#[]⟩, .slice (some ⟨gk, 0, none⟩) 2 2]] (by rfl) rfl rfl (by first | (simp only [List.map_toArray, List.map_cons, List.map_nil, Act.eval, Array.getD_eq_getD_getElem?, Option.getD_some, e39, e49]; done) | (simp only [List.map_toArray, List.map_cons, List.map_nil, Act.eval, Array.getD_eq_getD_getElem?, Option.getD_some, e39, e49]; rfl)) ?_
      refine (HE6.out _ _ Z_gk.out).mono ?_
      rintro e w2 ⟨rfl, hb⟩
      refine ⟨_, rfl, ?_⟩
      refine hK.out _ _ ⟨gs, gk, g9, m3_, m6_, m9_, m10_, m15_, (by rw [ha.out]; exact putSel_upk 11 hb_ rfl rfl rfl), below_step KB_.out hb, Q_GE_gs, fun _ => Nat.lt_of_lt_of_le LT_gs.out hb.size, fun _ => blk_below Z_gs.out hb, Q_GE_gk, fun _ => Nat.lt_of_lt_of_le LT_gk.out hb.size, fun _ => blk_below Z_gk.out hb, Q_GE_g9, fun h0_ => Nat.lt_of_lt_of_le (Q_LT_g9 h0_) hb.size, fun h0_ h1_ => blk_below (Q_Z_g9 h0_ h1_) hb, fun h0_ => absurd ((hoff 16 (by kernel_rfl)).symm.trans h0_) (by decide), Q_NE_g9_gs, Q_NE_g9_gk, Q_X3_, Q_X6_, Q_X9_, Q_X10_, Q_X15_⟩
    refine steps_cons ?_ ?_
    · rintro b a w' ⟨gs, gk, g9, m3_, m6_, m9_, m10_, m15_, ha, Q_KB_, Q_GE_gs, Q_LT_gs, Q_Z_gs, Q_GE_gk, Q_LT_gk, Q_Z_gk, Q_GE_g9, Q_LT_g9, Q_Z_g9, Q_F_g9, Q_NE_g9_gs, Q_NE_g9_gk, Q_X3_, Q_X6_, Q_X9_, Q_X10_, Q_X15_⟩ hb_ hon hoff
      refine ⟨_, rfl, fun K hK => ?_⟩
      have e50 : a.tmps[50]? = some (.tuple #[.agg #[.int .i64 1, .bool true, .int .i64 0, .string ⟨#[]⟩, .string ⟨#[]⟩, .string ⟨#[]⟩, .slice none 0 0], .int .i64 0]) := by rw [ha]; exact putSel_on (e := (11, 50, .tuple #[.agg #[.int .i64 1, .bool true, .int .i64 0, .string ⟨#[]⟩, .string ⟨#[]⟩, .string ⟨#[]⟩, .slice none 0 0], .int .i64 0])) 11 rfl rfl (hon 11 (by kernel_rfl)) rfl
      replace ha := Aside0.mk ha
      have KB_ := Aside0.mk Q_KB_
      have GE_gs := Aside0.mk (Q_GE_gs (hon 3 (by kernel_rfl)))
      have LT_gs := Aside0.mk (Q_LT_gs (hon 3 (by kernel_rfl)))
      have Z_gs := Aside0.mk (Q_Z_gs (hon 3 (by kernel_rfl)))
      have GE_gk := Aside0.mk (Q_GE_gk (hon 9 (by kernel_rfl)))
      have LT_gk := Aside0.mk (Q_LT_gk (hon 9 (by kernel_rfl)))
      have Z_gk := Aside0.mk (Q_Z_gk (hon 9 (by kernel_rfl)))
      refine value_ (w1 := w') (v := .tuple #[.agg #[.int .i64 1, .bool true, .int .i64 0, .string ⟨#[]⟩, .string ⟨#[]⟩, .string ⟨#[]⟩, .slice none 0 0], .int .i64 0]) (by rfl) rfl ?_ ?_
      · go_simp
        (try simp only [i64_w])
        try rfl
      refine hK.out _ _ ⟨gs, gk, g9, m3_, m6_, m9_, m10_, m15_, (by rw [ha.out]; exact putSel_upk 12 hb_ rfl rfl rfl), Q_KB_, Q_GE_gs, Q_LT_gs, Q_Z_gs, Q_GE_gk, Q_LT_gk, Q_Z_gk, Q_GE_g9, Q_LT_g9, Q_Z_g9, fun h0_ => absurd ((hoff 16 (by kernel_rfl)).symm.trans h0_) (by decide), Q_NE_g9_gs, Q_NE_g9_gk, Q_X3_, Q_X6_, Q_X9_, Q_X10_, Q_X15_⟩
    refine steps_cons ?_ ?_
    · rintro b a w' ⟨gs, gk, g9, m3_, m6_, m9_, m10_, m15_, ha, Q_KB_, Q_GE_gs, Q_LT_gs, Q_Z_gs, Q_GE_gk, Q_LT_gk, Q_Z_gk, Q_GE_g9, Q_LT_g9, Q_Z_g9, Q_F_g9, Q_NE_g9_gs, Q_NE_g9_gk, Q_X3_, Q_X6_, Q_X9_, Q_X10_, Q_X15_⟩ hb_ hon hoff
      refine ⟨_, rfl, fun K hK => ?_⟩
      have e38 : a.tmps[38]? = some (.tuple #[.agg #[.int .i64 1, .bool true, .int .i64 0, .string ⟨#[]⟩, .string ⟨#[]⟩, .string ⟨#[]⟩, .slice none 0 0], .int .i64 0]) := by rw [ha]; exact putSel_on (e := (12, 38, .tuple #[.agg #[.int .i64 1, .bool true, .int .i64 0, .string ⟨#[]⟩, .string ⟨#[]⟩, .string ⟨#[]⟩, .slice none 0 0], .int .i64 0])) 12 rfl rfl (hon 12 (by kernel_rfl)) rfl
      replace ha := Aside0.mk ha
      have KB_ := Aside0.mk Q_KB_
      have GE_gs := Aside0.mk (Q_GE_gs (hon 3 (by kernel_rfl)))
      have LT_gs := Aside0.mk (Q_LT_gs (hon 3 (by kernel_rfl)))
      have Z_gs := Aside0.mk (Q_Z_gs (hon 3 (by kernel_rfl)))
      have GE_gk := Aside0.mk (Q_GE_gk (hon 9 (by kernel_rfl)))
      have LT_gk := Aside0.mk (Q_LT_gk (hon 9 (by kernel_rfl)))
      have Z_gk := Aside0.mk (Q_Z_gk (hon 9 (by kernel_rfl)))
      refine value_ (w1 := w') (v := .agg #[.int .i64 1, .bool true, .int .i64 0, .string ⟨#[]⟩, .string ⟨#[]⟩, .string ⟨#[]⟩, .slice none 0 0]) (by rfl) rfl ?_ ?_
      · go_simp
        (try simp only [i64_w])
        try rfl
      refine hK.out _ _ ⟨gs, gk, g9, m3_, m6_, m9_, m10_, m15_, (by rw [ha.out]; exact putSel_upk 13 hb_ rfl rfl rfl), Q_KB_, Q_GE_gs, Q_LT_gs, Q_Z_gs, Q_GE_gk, Q_LT_gk, Q_Z_gk, Q_GE_g9, Q_LT_g9, Q_Z_g9, fun h0_ => absurd ((hoff 16 (by kernel_rfl)).symm.trans h0_) (by decide), Q_NE_g9_gs, Q_NE_g9_gk, Q_X3_, Q_X6_, Q_X9_, Q_X10_, Q_X15_⟩
    refine steps_cons ?_ ?_
    · rintro b a w' ⟨gs, gk, g9, m3_, m6_, m9_, m10_, m15_, ha, Q_KB_, Q_GE_gs, Q_LT_gs, Q_Z_gs, Q_GE_gk, Q_LT_gk, Q_Z_gk, Q_GE_g9, Q_LT_g9, Q_Z_g9, Q_F_g9, Q_NE_g9_gs, Q_NE_g9_gk, Q_X3_, Q_X6_, Q_X9_, Q_X10_, Q_X15_⟩ hb_ hon hoff
      refine ⟨_, rfl, fun K hK => ?_⟩
      have e38 : a.tmps[38]? = some (.tuple #[.agg #[.int .i64 1, .bool true, .int .i64 0, .string ⟨#[]⟩, .string ⟨#[]⟩, .string ⟨#[]⟩, .slice none 0 0], .int .i64 0]) := by rw [ha]; exact putSel_on (e := (12, 38, .tuple #[.agg #[.int .i64 1, .bool true, .int .i64 0, .string ⟨#[]⟩, .string ⟨#[]⟩, .string ⟨#[]⟩, .slice none 0 0], .int .i64 0])) 12 rfl rfl (hon 12 (by kernel_rfl)) rfl
      replace ha := Aside0.mk ha
      have KB_ := Aside0.mk Q_KB_
      have GE_gs := Aside0.mk (Q_GE_gs (hon 3 (by kernel_rfl)))
      have LT_gs := Aside0.mk (Q_LT_gs (hon 3 (by kernel_rfl)))
      have Z_gs := Aside0.mk (Q_Z_gs (hon 3 (by kernel_rfl)))
      have GE_gk := Aside0.mk (Q_GE_gk (hon 9 (by kernel_rfl)))
      have LT_gk := Aside0.mk (Q_LT_gk (hon 9 (by kernel_rfl)))
      have Z_gk := Aside0.mk (Q_Z_gk (hon 9 (by kernel_rfl)))
      refine value_ (w1 := w') (v := .int .i64 0) (by rfl) rfl ?_ ?_
      · go_simp
        (try simp only [i64_w])
        try rfl
      refine hK.out _ _ ⟨gs, gk, g9, m3_, m6_, m9_, m10_, m15_, (by rw [ha.out]; exact putSel_upk 14 hb_ rfl rfl rfl), Q_KB_, Q_GE_gs, Q_LT_gs, Q_Z_gs, Q_GE_gk, Q_LT_gk, Q_Z_gk, Q_GE_g9, Q_LT_g9, Q_Z_g9, Q_F_g9, Q_NE_g9_gs, Q_NE_g9_gk, Q_X3_, Q_X6_, Q_X9_, Q_X10_, Q_X15_⟩
    refine steps_cons ?_ ?_
    · rintro b a w' ⟨gs, gk, g9, m3_, m6_, m9_, m10_, m15_, ha, Q_KB_, Q_GE_gs, Q_LT_gs, Q_Z_gs, Q_GE_gk, Q_LT_gk, Q_Z_gk, Q_GE_g9, Q_LT_g9, Q_Z_g9, Q_F_g9, Q_NE_g9_gs, Q_NE_g9_gk, Q_X3_, Q_X6_, Q_X9_, Q_X10_, Q_X15_⟩ hb_ hon hoff
      refine ⟨_, rfl, fun K hK => ?_⟩
      replace ha := Aside0.mk ha
      have KB_ := Aside0.mk Q_KB_
      refine value_ (w1 := w'.alloc (.cells #[.int .i64 0, .bool false, .int .i64 0, .string ⟨#[]⟩, .string ⟨#[]⟩, .string ⟨#[]⟩, .slice none 0 0] 55)) (v := .pointer (some ⟨w'.heap.size, 0, none⟩)) (by rfl) rfl ?_ ?_
      · first | (go_simp; done) | (go_simp; rfl) | (go_simp; constructor <;> rfl)
      have hbox : (w'.alloc (.cells #[.int .i64 0, .bool false, .int .i64 0, .string ⟨#[]⟩, .string ⟨#[]⟩, .string ⟨#[]⟩, .slice none 0 0] 55)).heap[w'.heap.size]? = some (.cells #[.int .i64 0, .bool false, .int .i64 0, .string ⟨#[]⟩, .string ⟨#[]⟩, .string ⟨#[]⟩, .slice none 0 0] 55 (0, 0)) := blk_new _ _
      have hb : Below w'.heap.size w' (w'.alloc (.cells #[.int .i64 0, .bool false, .int .i64 0, .string ⟨#[]⟩, .string ⟨#[]⟩, .string ⟨#[]⟩, .slice none 0 0] 55)) := below_alloc (Below.refl _ _) _
      generalize w'.alloc (.cells #[.int .i64 0, .bool false, .int .i64 0, .string ⟨#[]⟩, .string ⟨#[]⟩, .string ⟨#[]⟩, .slice none 0 0] 55) = w2 at hbox hb ⊢
      have hle := (KB_.out).size
      generalize hg_ : w'.heap.size = g9n at hbox hle ⊢
      have z_NE_g9_gs := fun (h0_ : up b 15 15 = true) (h1_ : up b 15 3 = true) => (show g9n ≠ gs from by have h_ := Q_LT_gs h1_; omega)
      have z_NE_g9_gk := fun (h0_ : up b 15 15 = true) (h1_ : up b 15 9 = true) => (show g9n ≠ gk from by have h_ := Q_LT_gk h1_; omega)
      refine hK.out _ _ ⟨gs, gk, g9n, m3_, m6_, m9_, m10_, (.pointer (some ⟨g9n, 0, none⟩)), (by rw [ha.out]; exact putSel_upk 15 hb_ rfl rfl rfl), below_step KB_.out hb, Q_GE_gs, fun h0_ => Nat.lt_of_lt_of_le (Q_LT_gs h0_) hb.size, fun h0_ => blk_below (Q_Z_gs h0_) hb, Q_GE_gk, fun h0_ => Nat.lt_of_lt_of_le (Q_LT_gk h0_) hb.size, fun h0_ => blk_below (Q_Z_gk h0_) hb, fun _ => hle, fun _ => blk_lt hbox, fun _ _ => hbox, fun h0_ => absurd ((hoff 16 (by kernel_rfl)).symm.trans h0_) (by decide), fun _ _ => z_NE_g9_gs (by assumption) (by assumption), fun _ _ => z_NE_g9_gk (by assumption) (by assumption), Q_X3_, Q_X6_, Q_X9_, Q_X10_, fun _ => rfl⟩
    refine steps_cons ?_ ?_
    · rintro b a w' ⟨gs, gk, g9, m3_, m6_, m9_, m10_, m15_, ha, Q_KB_, Q_GE_gs, Q_LT_gs, Q_Z_gs, Q_GE_gk, Q_LT_gk, Q_Z_gk, Q_GE_g9, Q_LT_g9, Q_Z_g9, Q_F_g9, Q_NE_g9_gs, Q_NE_g9_gk, Q_X3_, Q_X6_, Q_X9_, Q_X10_, Q_X15_⟩ hb_ hon hoff
      refine ⟨_, rfl, fun K hK => ?_⟩
      have e9 : a.tmps[9]? = some (m15_) := by rw [ha]; exact putSel_on (e := (15, 9, m15_)) 15 rfl rfl (hon 15 (by kernel_rfl)) rfl
      rw [Q_X15_ (hon 15 (by kernel_rfl))] at e9
      have e51 : a.tmps[51]? = some (.agg #[.int .i64 1, .bool true, .int .i64 0, .string ⟨#[]⟩, .string ⟨#[]⟩, .string ⟨#[]⟩, .slice none 0 0]) := by rw [ha]; exact putSel_on (e := (13, 51, .agg #[.int .i64 1, .bool true, .int .i64 0, .string ⟨#[]⟩, .string ⟨#[]⟩, .string ⟨#[]⟩, .slice none 0 0])) 13 rfl rfl (hon 13 (by kernel_rfl)) rfl
      replace ha := Aside0.mk ha
      have KB_ := Aside0.mk Q_KB_
      have GE_gs := Aside0.mk (Q_GE_gs (hon 3 (by kernel_rfl)))
      have LT_gs := Aside0.mk (Q_LT_gs (hon 3 (by kernel_rfl)))
      have Z_gs := Aside0.mk (Q_Z_gs (hon 3 (by kernel_rfl)))
      have GE_gk := Aside0.mk (Q_GE_gk (hon 9 (by kernel_rfl)))
      have LT_gk := Aside0.mk (Q_LT_gk (hon 9 (by kernel_rfl)))
      have Z_gk := Aside0.mk (Q_Z_gk (hon 9 (by kernel_rfl)))
      have GE_g9 := Aside0.mk (Q_GE_g9 (hon 15 (by kernel_rfl)))
      have LT_g9 := Aside0.mk (Q_LT_g9 (hon 15 (by kernel_rfl)))
      have Z_g9 := Aside0.mk (Q_Z_g9 (hon 15 (by kernel_rfl)) hb_)
      have NE_g9_gs := Aside0.mk (Q_NE_g9_gs (hon 15 (by kernel_rfl)) (hon 3 (by kernel_rfl)))
      have NE_g9_gk := Aside0.mk (Q_NE_g9_gk (hon 15 (by kernel_rfl)) (hon 9 (by kernel_rfl)))
      have y0 : w'.cell? ⟨g9, 0, none⟩ = some (.int .i64 0) := (blk_cell Z_g9.out 0).trans rfl
      have f0 := blk_frozen Z_g9.out 0
      have y1 : w'.cell? ⟨g9, 1, none⟩ = some (.bool false) := (blk_cell Z_g9.out 1).trans rfl
      have f1 := blk_frozen Z_g9.out 1
      have y2 : w'.cell? ⟨g9, 2, none⟩ = some (.int .i64 0) := (blk_cell Z_g9.out 2).trans rfl
      have f2 := blk_frozen Z_g9.out 2
      have y3 : w'.cell? ⟨g9, 3, none⟩ = some (.string ⟨#[]⟩) := (blk_cell Z_g9.out 3).trans rfl
      have f3 := blk_frozen Z_g9.out 3
      have y4 : w'.cell? ⟨g9, 4, none⟩ = some (.string ⟨#[]⟩) := (blk_cell Z_g9.out 4).trans rfl
      have f4 := blk_frozen Z_g9.out 4
      have y5 : w'.cell? ⟨g9, 5, none⟩ = some (.string ⟨#[]⟩) := (blk_cell Z_g9.out 5).trans rfl
      have f5 := blk_frozen Z_g9.out 5
      have y6 : w'.cell? ⟨g9, 6, none⟩ = some (.slice none 0 0) := (blk_cell Z_g9.out 6).trans rfl
      have f6 := blk_frozen Z_g9.out 6
      refine skip_ (w1 := ?_) (by rfl) rfl ?_ ?_
      rotate_left
      · go_simp
        rfl
      refine hK.out _ _ ⟨gs, gk, g9, m3_, m6_, m9_, m10_, m15_, (by rw [ha.out]; exact putSel_none (v := undef) rfl), below_set (below_set (below_set (below_set (below_set (below_set (below_set (KB_.out) GE_g9.out) GE_g9.out) GE_g9.out) GE_g9.out) GE_g9.out) GE_g9.out) GE_g9.out, Q_GE_gs, fun _ => lt_set (lt_set (lt_set (lt_set (lt_set (lt_set (lt_set (LT_gs.out))))))), fun _ => blk_far (p := ⟨g9, 6, none⟩) (blk_far (p := ⟨g9, 5, none⟩) (blk_far (p := ⟨g9, 4, none⟩) (blk_far (p := ⟨g9, 3, none⟩) (blk_far (p := ⟨g9, 2, none⟩) (blk_far (p := ⟨g9, 1, none⟩) (blk_far (p := ⟨g9, 0, none⟩) (Z_gs.out) (Ne.symm NE_g9_gs.out) _) (Ne.symm NE_g9_gs.out) _) (Ne.symm NE_g9_gs.out) _) (Ne.symm NE_g9_gs.out) _) (Ne.symm NE_g9_gs.out) _) (Ne.symm NE_g9_gs.out) _) (Ne.symm NE_g9_gs.out) _, Q_GE_gk, fun _ => lt_set (lt_set (lt_set (lt_set (lt_set (lt_set (lt_set (LT_gk.out))))))), fun _ => blk_far (p := ⟨g9, 6, none⟩) (blk_far (p := ⟨g9, 5, none⟩) (blk_far (p := ⟨g9, 4, none⟩) (blk_far (p := ⟨g9, 3, none⟩) (blk_far (p := ⟨g9, 2, none⟩) (blk_far (p := ⟨g9, 1, none⟩) (blk_far (p := ⟨g9, 0, none⟩) (Z_gk.out) (Ne.symm NE_g9_gk.out) _) (Ne.symm NE_g9_gk.out) _) (Ne.symm NE_g9_gk.out) _) (Ne.symm NE_g9_gk.out) _) (Ne.symm NE_g9_gk.out) _) (Ne.symm NE_g9_gk.out) _) (Ne.symm NE_g9_gk.out) _, Q_GE_g9, fun _ => lt_set (lt_set (lt_set (lt_set (lt_set (lt_set (lt_set (LT_g9.out))))))), fun _ h1_ => absurd ((up_self b 16).symm.trans h1_) (by decide), fun _ => blk_put (cs := #[.int .i64 1, .bool true, .int .i64 0, .string ⟨#[]⟩, .string ⟨#[]⟩, .string ⟨#[]⟩, .slice none 0 0]) (cs' := #[.int .i64 1, .bool true, .int .i64 0, .string ⟨#[]⟩, .string ⟨#[]⟩, .string ⟨#[]⟩, .slice none 0 0]) (blk_put (cs := #[.int .i64 1, .bool true, .int .i64 0, .string ⟨#[]⟩, .string ⟨#[]⟩, .string ⟨#[]⟩, .slice none 0 0]) (cs' := #[.int .i64 1, .bool true, .int .i64 0, .string ⟨#[]⟩, .string ⟨#[]⟩, .string ⟨#[]⟩, .slice none 0 0]) (blk_put (cs := #[.int .i64 1, .bool true, .int .i64 0, .string ⟨#[]⟩, .string ⟨#[]⟩, .string ⟨#[]⟩, .slice none 0 0]) (cs' := #[.int .i64 1, .bool true, .int .i64 0, .string ⟨#[]⟩, .string ⟨#[]⟩, .string ⟨#[]⟩, .slice none 0 0]) (blk_put (cs := #[.int .i64 1, .bool true, .int .i64 0, .string ⟨#[]⟩, .string ⟨#[]⟩, .string ⟨#[]⟩, .slice none 0 0]) (cs' := #[.int .i64 1, .bool true, .int .i64 0, .string ⟨#[]⟩, .string ⟨#[]⟩, .string ⟨#[]⟩, .slice none 0 0]) (blk_put (cs := #[.int .i64 1, .bool true, .int .i64 0, .string ⟨#[]⟩, .string ⟨#[]⟩, .string ⟨#[]⟩, .slice none 0 0]) (cs' := #[.int .i64 1, .bool true, .int .i64 0, .string ⟨#[]⟩, .string ⟨#[]⟩, .string ⟨#[]⟩, .slice none 0 0]) (blk_put (cs := #[.int .i64 1, .bool false, .int .i64 0, .string ⟨#[]⟩, .string ⟨#[]⟩, .string ⟨#[]⟩, .slice none 0 0]) (cs' := #[.int .i64 1, .bool true, .int .i64 0, .string ⟨#[]⟩, .string ⟨#[]⟩, .string ⟨#[]⟩, .slice none 0 0]) (blk_put (cs := #[.int .i64 0, .bool false, .int .i64 0, .string ⟨#[]⟩, .string ⟨#[]⟩, .string ⟨#[]⟩, .slice none 0 0]) (cs' := #[.int .i64 1, .bool false, .int .i64 0, .string ⟨#[]⟩, .string ⟨#[]⟩, .string ⟨#[]⟩, .slice none 0 0]) (Z_g9.out) 0 _ rfl) 1 _ rfl) 2 _ rfl) 3 _ rfl) 4 _ rfl) 5 _ rfl) 6 _ rfl, Q_NE_g9_gs, Q_NE_g9_gk, Q_X3_, Q_X6_, Q_X9_, Q_X10_, Q_X15_⟩
    refine steps_cons ?_ ?_
    · rintro b a w' ⟨gs, gk, g9, m3_, m6_, m9_, m10_, m15_, ha, Q_KB_, Q_GE_gs, Q_LT_gs, Q_Z_gs, Q_GE_gk, Q_LT_gk, Q_Z_gk, Q_GE_g9, Q_LT_g9, Q_Z_g9, Q_F_g9, Q_NE_g9_gs, Q_NE_g9_gk, Q_X3_, Q_X6_, Q_X9_, Q_X10_, Q_X15_⟩ hb_ hon hoff
      refine ⟨_, rfl, fun K hK => ?_⟩
      have e52 : a.tmps[52]? = some (.int .i64 0) := by rw [ha]; exact putSel_on (e := (14, 52, .int .i64 0)) 14 rfl rfl (hon 14 (by kernel_rfl)) rfl
      replace ha := Aside0.mk ha
      have KB_ := Aside0.mk Q_KB_
      have GE_gs := Aside0.mk (Q_GE_gs (hon 3 (by kernel_rfl)))
      have LT_gs := Aside0.mk (Q_LT_gs (hon 3 (by kernel_rfl)))
      have Z_gs := Aside0.mk (Q_Z_gs (hon 3 (by kernel_rfl)))
      have GE_gk := Aside0.mk (Q_GE_gk (hon 9 (by kernel_rfl)))
      have LT_gk := Aside0.mk (Q_LT_gk (hon 9 (by kernel_rfl)))
      have Z_gk := Aside0.mk (Q_Z_gk (hon 9 (by kernel_rfl)))
      have GE_g9 := Aside0.mk (Q_GE_g9 (hon 15 (by kernel_rfl)))
      have LT_g9 := Aside0.mk (Q_LT_g9 (hon 15 (by kernel_rfl)))
      have F_g9 := Aside0.mk (Q_F_g9 (hon 16 (by kernel_rfl)))
      have NE_g9_gs := Aside0.mk (Q_NE_g9_gs (hon 15 (by kernel_rfl)) (hon 3 (by kernel_rfl)))
      have NE_g9_gk := Aside0.mk (Q_NE_g9_gk (hon 15 (by kernel_rfl)) (hon 9 (by kernel_rfl)))
      refine value_ (w1 := w') (v := .int .i64 0) (by rfl) rfl ?_ ?_
      · go_simp
        (try simp only [i64_w])
        try rfl
      refine hK.out _ _ ⟨gs, gk, g9, m3_, m6_, m9_, m10_, m15_, (by rw [ha.out]; exact putSel_upk 16 hb_ rfl rfl rfl), Q_KB_, Q_GE_gs, Q_LT_gs, Q_Z_gs, Q_GE_gk, Q_LT_gk, Q_Z_gk, Q_GE_g9, Q_LT_g9, fun _ h1_ => absurd ((hon 16 (by kernel_rfl)).symm.trans h1_) (by decide), Q_F_g9, Q_NE_g9_gs, Q_NE_g9_gk, Q_X3_, Q_X6_, Q_X9_, Q_X10_, Q_X15_⟩
    exact steps_nil
  rintro b a w' hall ⟨gs, gk, g9, m3_, m6_, m9_, m10_, m15_, ha, Q_KB_, Q_GE_gs, Q_LT_gs, Q_Z_gs, Q_GE_gk, Q_LT_gk, Q_Z_gk, Q_GE_g9, Q_LT_g9, Q_Z_g9, Q_F_g9, Q_NE_g9_gs, Q_NE_g9_gk, Q_X3_, Q_X6_, Q_X9_, Q_X10_, Q_X15_⟩
  clear KB_
  have hb0_ := hall 0 (by kernel_rfl)
  have hb1_ := hall 1 (by kernel_rfl)
  have hb2_ := hall 2 (by kernel_rfl)
  have hb3_ := hall 3 (by kernel_rfl)
  have hb4_ := hall 4 (by kernel_rfl)
  have hb5_ := hall 5 (by kernel_rfl)
  have hb6_ := hall 6 (by kernel_rfl)
  have hb7_ := hall 7 (by kernel_rfl)
  have hb8_ := hall 8 (by kernel_rfl)
  have hb9_ := hall 9 (by kernel_rfl)
  have hb10_ := hall 10 (by kernel_rfl)
  have hb11_ := hall 11 (by kernel_rfl)
  have hb12_ := hall 12 (by kernel_rfl)
  have hb13_ := hall 13 (by kernel_rfl)
  have hb14_ := hall 14 (by kernel_rfl)
  have hb15_ := hall 15 (by kernel_rfl)
  have hb16_ := hall 16 (by kernel_rfl)
  have hb17_ := hall 17 (by kernel_rfl)
  subst ha
  obtain rfl := Q_X3_ hb3_
  obtain rfl := Q_X6_ hb6_
  obtain rfl := Q_X9_ hb9_
  obtain rfl := Q_X10_ hb10_
  obtain rfl := Q_X15_ hb15_
  simp only [putSel, hb0_, hb1_, hb2_, hb3_, hb4_, hb5_, hb6_, hb7_, hb8_, hb9_, hb10_, hb11_, hb12_, hb13_, hb14_, hb15_, hb16_, hb17_, if_true, Act.put, List.setIfInBounds_toArray, List.set_cons_zero, List.set_cons_succ]
  have KB_ := Aside0.mk Q_KB_
  clear Q_KB_
  have GE_gs := Aside0.mk (Q_GE_gs hb3_)
  clear Q_GE_gs
  have LT_gs := Aside0.mk (Q_LT_gs hb3_)
  clear Q_LT_gs
  have Z_gs := Aside0.mk (Q_Z_gs hb3_)
  clear Q_Z_gs
  have GE_gk := Aside0.mk (Q_GE_gk hb9_)
  clear Q_GE_gk
  have LT_gk := Aside0.mk (Q_LT_gk hb9_)
  clear Q_LT_gk
  have Z_gk := Aside0.mk (Q_Z_gk hb9_)
  clear Q_Z_gk
  have GE_g9 := Aside0.mk (Q_GE_g9 hb15_)
  clear Q_GE_g9
  have LT_g9 := Aside0.mk (Q_LT_g9 hb15_)
  clear Q_LT_g9
  clear Q_Z_g9
  have F_g9 := Aside0.mk (Q_F_g9 hb16_)
  clear Q_F_g9
  have NE_g9_gs := Aside0.mk (Q_NE_g9_gs hb15_ hb3_)
  clear Q_NE_g9_gs
  have NE_g9_gk := Aside0.mk (Q_NE_g9_gk hb15_ hb9_)
  clear Q_NE_g9_gk
  clear hall hb0_ hb1_ hb2_ hb3_ hb4_ hb5_ hb6_ hb7_ hb8_ hb9_ hb10_ hb11_ hb12_ hb13_ hb14_ hb15_ hb16_ hb17_
  replace HB := Aside0.mk (below_step HB.out KB_.out)
  replace HQ := Aside0.mk (blk_below HQ.out KB_.out)
  replace HU := Aside0.mk (blk_below HU.out KB_.out)
  replace HY := Aside0.mk (blk_below HY.out KB_.out)
  have HV := F_g9
  clear F_g9 KB_ GE_g9 LT_g9 GE_gs LT_gs Z_gs GE_gk LT_gk Z_gk NE_g9_gs NE_g9_gk HE6
  generalize w' = wc at HB HQ HU HY HV ⊢
  obtain ⟨q0, q1, q2, q3, q4, q5, q6⟩ := cells7 HY.out
  obtain ⟨r0, r1, r2, r3, r4, r5, r6⟩ := cells7 HV.out
  obtain ⟨u0, u1⟩ : wc.cell? ⟨g6, 0, none⟩ = some (.string p4) ∧ wc.cell? ⟨g6, 1, none⟩ = some (.string p5) := ⟨(blk_cell HU.out 0).trans rfl, (blk_cell HU.out 1).trans rfl⟩
  go_wp2
  go_ret
  exact ⟨rfl, HB.out⟩
end Go.Proofs.Ytelibndkkokadaa.EV
