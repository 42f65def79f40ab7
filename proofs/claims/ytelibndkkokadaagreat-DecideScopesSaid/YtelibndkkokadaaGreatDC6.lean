import Derived.Test.YtelibndkkokadaaGreatGB0
import Derived.Test.YtelibndkkokadaaGreatJk
import Derived.Test.YtelibndkkokadaaGreatSqz
import Derived.Test.YtelibndkkokadaaGreatJa
import Derived.Test.YtelibndkkokadaaGreatT0
import Derived.Deep.RegionWith
import Derived.Deep.CutRange
import Derived.Test.YtelibndkkokadaaGreatGB10
import Derived.Test.YtelibndkkokadaaGreatGB9
import Derived.Test.YtelibndkkokadaaGreatJz
namespace Go.Proofs.YtelibndkkokadaaGreat.DC
open Go.RowKit Go.Proofs.YtelibndkkokadaaGreatW.PrintWords Go.Proofs.YtelibndkkokadaaGreatW.PrintLast Go.Proofs.YtelibndkkokadaaGreat.HandV Go.Proofs.YtelibndkkokadaaGreatW.PrintMore
open Go.Proofs.YtelibndkkokadaaGreat.GB
attribute [local go_sem] max2_int min2_int max_two min_two max_three min_three max_four min_four   -- for this text's walks alone
set_option linter.unusedVariables false
set_option linter.unusedSimpArgs false
-- IMPORT .DC5
-- IMPORT .Sqz
-- FN chancellaw5_Uid
-- FN chancellaw5_id
-- FN chancellaw5_within
-- FN chancellaw1_Of
-- IMPORT .A5
-- IMPORT .T0
-- IMPORT Derived.Deep.RegionWith
-- IMPORT Derived.Deep.CutRange
theorem bn2 (w : World) (o1 o2 : Obj) : ((w.alloc o1).alloc o2).heap[w.heap.size + 1]? = some o2 := bnew2 w o1 o2
theorem bn3 (w : World) (o1 o2 o3 : Obj) : (((w.alloc o1).alloc o2).alloc o3).heap[w.heap.size + 2]? = some o3 := by
  have h := bn2 (w.alloc o1) o2 o3
  have hs : (w.alloc o1).heap.size = w.heap.size + 1 := by simp
  rw [hs] at h
  exact h
open GA (okU)
open GP (Tot)
set_option maxRecDepth 100000 in
set_option maxHeartbeats 16000000 in
theorem envs_nil (w : World) : Calls Tryz.prog 22 #[.agg #[.slice none 0 0, .slice none 0 0], .agg #[.bool false, .int .i64 0, .string ⟨#[]⟩, .string ⟨#[]⟩, .int .i64 0, .string ⟨#[]⟩, .string ⟨#[]⟩, .int .i64 0, .string ⟨#[]⟩, .string ⟨#[]⟩, .slice none 0 0]] w fun e w' => e = .returned (.slice none 0 0) ∧ Below w.heap.size w w' := by
  go_enter Tryz.func22, Tryz.ntmps22
  go_wp2
  have HB : Aside0 (Below w.heap.size w ((w.alloc (.cells #[.slice none 0 0, .slice none 0 0] 51)).alloc (.cells #[.bool false, .int .i64 0, .string ⟨#[]⟩, .string ⟨#[]⟩, .int .i64 0, .string ⟨#[]⟩, .string ⟨#[]⟩, .int .i64 0, .string ⟨#[]⟩, .string ⟨#[]⟩, .slice none 0 0] 57))) := ⟨below_alloc (below_alloc (Below.refl _ _) _) _⟩
  have q1 : ((w.alloc (.cells #[.slice none 0 0, .slice none 0 0] 51)).alloc (.cells #[.bool false, .int .i64 0, .string ⟨#[]⟩, .string ⟨#[]⟩, .int .i64 0, .string ⟨#[]⟩, .string ⟨#[]⟩, .int .i64 0, .string ⟨#[]⟩, .string ⟨#[]⟩, .slice none 0 0] 57)).cell? ⟨w.heap.size, 1, none⟩ = some (.slice none 0 0) := (blk_cell (blk_alloc (blk_new _ _) _) 1).trans rfl
  generalize (w.alloc (.cells #[.slice none 0 0, .slice none 0 0] 51)).alloc (.cells #[.bool false, .int .i64 0, .string ⟨#[]⟩, .string ⟨#[]⟩, .int .i64 0, .string ⟨#[]⟩, .string ⟨#[]⟩, .int .i64 0, .string ⟨#[]⟩, .string ⟨#[]⟩, .slice none 0 0] 57) = w3 at HB q1 ⊢
  go_loopw [5, 6] (fun v5 v6 wr => v5 = .slice none 0 0 ∧ v6 = .int .i64 0 ∧ w3 = wr) (fun _ _ _ => 0)
  case atStart => exact ⟨rfl, rfl, rfl⟩
  case round =>
    obtain ⟨rfl, rfl, rfl⟩ := hrel
    go_wp2
    go_ret
    exact ⟨rfl, HB.out⟩
namespace Uq
open GA GP
theorem within_tot5 (a m : Int) (hm : 0 < m) (hm2 : m ≤ 1000000) : ∃ r, chancellaw5_within.f a m = some r ∧ 0 ≤ r ∧ r < m := by
  unfold chancellaw5_within.f
  have h1 := Int.tmod_lt_of_pos a hm
  have h2 := tmod_gt a m hm
  rw [if_neg (by omega)]
  split
  · exact ⟨_, rfl, by rw [wr_id (by omega) (by omega)]; omega, by rw [wr_id (by omega) (by omega)]; omega⟩
  · exact ⟨_, rfl, by omega, h1⟩
theorem okU_of {a b : ByteArray} (h1 : a.size ≤ 1000000) (h2 : b.size ≤ 1000000) : GA.okU ⟨a, b⟩ = true := by simp [GA.okU, h1, h2]
theorem of_nil : Tot (fun k => chancellaw1_Of.f k []) (fun b => b.size ≤ 1000000) := by
  have h : (chancellaw1_Of.f 200 []).map (fun b => b.size) = some 0 := by decide +kernel
  cases hb : chancellaw1_Of.f 200 [] with
  | none => rw [hb] at h; cases h
  | some b =>
    rw [hb] at h
    have hs : b.size = 0 := Option.some.inj h
    exact ⟨b, Ev.of (chancellaw1_Of.mono []) hb, by omega⟩
theorem uid5_tot (n : Int) : Tot (fun k => chancellaw5_Uid.f k n []) (fun r => okU ⟨r.1, r.2⟩ = true) := by
  unfold chancellaw5_Uid.f
  refine Tot.some_bind ?_
  obtain ⟨r, hr, h0, h1⟩ := within_tot5 n 5 (by decide) (by decide)
  rw [hr]
  refine Tot.some_bind ?_
  refine Tot.pos h0 ?_
  refine Tot.pos (by simp; omega) ?_
  refine Tot.bind (R := fun b => b.size ≤ 1000000) ?_ (fun b hb => Tot.now (okU_of ?_ hb))
  · unfold chancellaw5_id.f
    refine Tot.neg (by decide) ?_
    exact Tot.bind of_nil (fun b hb => Tot.now hb)
  · have : r = 0 ∨ r = 1 ∨ r = 2 ∨ r = 3 ∨ r = 4 := by omega
    rcases this with rfl | rfl | rfl | rfl | rfl <;> exact Nat.le_of_ble_eq_true rfl
end Uq
theorem uid_calls (n : Int) (w : World) : Calls Tryz.prog 13 #[.int .i64 n, .slice none 0 0] w fun e w' => ∃ t i, e = .returned (.agg #[.string t, .string i]) ∧ okU ⟨t, i⟩ = true ∧ Below w.heap.size w w' := by
  obtain ⟨⟨t, i⟩, ⟨k, hk⟩, hP⟩ := Uq.uid5_tot n
  exact (chancellaw5_Uid.calls k n none 0 [] t i w (Kd.C_nil _ _) (Nat.le_refl _) (hk k (Nat.le_refl k))).mono fun e w' h => ⟨t, i, h.1, hP, h.2⟩
abbrev set6 (W : World) (g : Nat) (v0 v1 v2 v3 v4 v5 : Value) : World := (((((W.setCell ⟨g, 0, none⟩ v0).setCell ⟨g, 1, none⟩ v1).setCell ⟨g, 2, none⟩ v2).setCell ⟨g, 3, none⟩ v3).setCell ⟨g, 4, none⟩ v4).setCell ⟨g, 5, none⟩ v5
theorem set6_blk {W : World} {g : Nat} {t : TypeId} {a0 a1 a2 a3 a4 a5 : Value} (h : W.heap[g]? = some (.cells #[a0, a1, a2, a3, a4, a5] t (0, 0))) (v0 v1 v2 v3 v4 v5 : Value) : (set6 W g v0 v1 v2 v3 v4 v5).heap[g]? = some (.cells #[v0, v1, v2, v3, v4, v5] t (0, 0)) := by
  replace h := blk_put (cs := #[a0, a1, a2, a3, a4, a5]) (cs' := #[v0, a1, a2, a3, a4, a5]) h 0 v0 rfl
  replace h := blk_put (cs := #[v0, a1, a2, a3, a4, a5]) (cs' := #[v0, v1, a2, a3, a4, a5]) h 1 v1 rfl
  replace h := blk_put (cs := #[v0, v1, a2, a3, a4, a5]) (cs' := #[v0, v1, v2, a3, a4, a5]) h 2 v2 rfl
  replace h := blk_put (cs := #[v0, v1, v2, a3, a4, a5]) (cs' := #[v0, v1, v2, v3, a4, a5]) h 3 v3 rfl
  replace h := blk_put (cs := #[v0, v1, v2, v3, a4, a5]) (cs' := #[v0, v1, v2, v3, v4, a5]) h 4 v4 rfl
  replace h := blk_put (cs := #[v0, v1, v2, v3, v4, a5]) (cs' := #[v0, v1, v2, v3, v4, v5]) h 5 v5 rfl
  exact h
theorem set6_far {W : World} {g b : Nat} {t : TypeId} {cs : Array Value} (h : W.heap[b]? = some (.cells cs t (0, 0))) (hne : b ≠ g) (v0 v1 v2 v3 v4 v5 : Value) : (set6 W g v0 v1 v2 v3 v4 v5).heap[b]? = some (.cells cs t (0, 0)) :=
  blk_far (blk_far (blk_far (blk_far (blk_far (blk_far h (p := ⟨g, 0, none⟩) hne _) (p := ⟨g, 1, none⟩) hne _) (p := ⟨g, 2, none⟩) hne _) (p := ⟨g, 3, none⟩) hne _) (p := ⟨g, 4, none⟩) hne _) (p := ⟨g, 5, none⟩) hne _
theorem set6_below {B : Nat} {w W : World} {g : Nat} (h : Below B w W) (hg : B ≤ g) (v0 v1 v2 v3 v4 v5 : Value) : Below B w (set6 W g v0 v1 v2 v3 v4 v5) :=
  (((((h.setCell (p := ⟨g, 0, none⟩) hg _).setCell (p := ⟨g, 1, none⟩) hg _).setCell (p := ⟨g, 2, none⟩) hg _).setCell (p := ⟨g, 3, none⟩) hg _).setCell (p := ⟨g, 4, none⟩) hg _).setCell (p := ⟨g, 5, none⟩) hg _
theorem cells6 {W : World} {g : Nat} {t : TypeId} {a0 a1 a2 a3 a4 a5 : Value} (h : W.heap[g]? = some (.cells #[a0, a1, a2, a3, a4, a5] t (0, 0))) : W.cell? ⟨g, 0, none⟩ = some a0 ∧ W.cell? ⟨g, 1, none⟩ = some a1 ∧ W.cell? ⟨g, 2, none⟩ = some a2 ∧ W.cell? ⟨g, 3, none⟩ = some a3 ∧ W.cell? ⟨g, 4, none⟩ = some a4 ∧ W.cell? ⟨g, 5, none⟩ = some a5 :=
  ⟨(blk_cell h 0).trans rfl, (blk_cell h 1).trans rfl, (blk_cell h 2).trans rfl, (blk_cell h 3).trans rfl, (blk_cell h 4).trans rfl, (blk_cell h 5).trans rfl⟩
theorem froz6 {W : World} {g : Nat} {t : TypeId} {cs : Array Value} (h : W.heap[g]? = some (.cells cs t (0, 0))) : W.frozen? ⟨g, 0, none⟩ = false ∧ W.frozen? ⟨g, 1, none⟩ = false ∧ W.frozen? ⟨g, 2, none⟩ = false ∧ W.frozen? ⟨g, 3, none⟩ = false ∧ W.frozen? ⟨g, 4, none⟩ = false ∧ W.frozen? ⟨g, 5, none⟩ = false :=
  ⟨blk_frozen h 0, blk_frozen h 1, blk_frozen h 2, blk_frozen h 3, blk_frozen h 4, blk_frozen h 5⟩
/-- The boxes of Request. -/
structure XQ (w : World) (W : World) : Prop where
  b0 : W.heap[w.heap.size]? = some (.cells #[.slice none 0 0, .slice none 0 0] 51 (0, 0))
  b1 : W.heap[w.heap.size + 1]? = some (.cells #[.string ⟨#[]⟩, .string ⟨#[]⟩, .string ⟨#[]⟩, .string ⟨#[]⟩, .string ⟨#[]⟩, .string ⟨#[]⟩] 44 (0, 0))
  b2 : W.heap[w.heap.size + 2]? = some (.cells #[.string ⟨#[]⟩, .string ⟨#[]⟩, .string ⟨#[]⟩, .string ⟨#[]⟩, .string ⟨#[]⟩, .string ⟨#[]⟩] 44 (0, 0))
  be : Below w.heap.size w W
theorem XQ.step {w W W' : World} (h : XQ w W) (hb : Below W.heap.size W W') : XQ w W' := ⟨blk_below h.b0 hb, blk_below h.b1 hb, blk_below h.b2 hb, below_step h.be hb⟩
theorem XQ.new (w : World) : XQ w (((w.alloc (.cells #[.slice none 0 0, .slice none 0 0] 51)).alloc (.cells #[.string ⟨#[]⟩, .string ⟨#[]⟩, .string ⟨#[]⟩, .string ⟨#[]⟩, .string ⟨#[]⟩, .string ⟨#[]⟩] 44)).alloc (.cells #[.string ⟨#[]⟩, .string ⟨#[]⟩, .string ⟨#[]⟩, .string ⟨#[]⟩, .string ⟨#[]⟩, .string ⟨#[]⟩] 44)) :=
  ⟨blk_alloc (blk_alloc (blk_new _ _) _) _, blk_alloc (bn2 _ _ _) _, bn3 _ _ _ _, below_alloc (below_alloc (below_alloc (Below.refl _ _) _) _) _⟩
def rq4_T : Bool × List (List Nat × List Nat) := (true, [([], []), ([0], [0]), ([1], [1]), ([2], [2]), ([], []), ([4], [4]), ([5], [5]), ([6, 3], [6]), ([], []), ([8], [8]), ([9], [9]), ([10, 7], [10]), ([3, 7, 11], [3, 7, 11]), ([12, 11, 0, 1, 2, 3, 4, 5, 6, 7, 8, 9, 10, 11, 12], [12])])
def rq4_B : List Nat := [0, 1, 3, 7, 0, 16, 48, 127, 0, 256, 768, 2047, 4095, 8191]
theorem rq4_tab : rtab .any (opsOf Tryz.f11 4) = rq4_T := by kernel_rfl
theorem rq4_bits : waitsOk rq4_T.2 rq4_B = true := by kernel_rfl
set_option maxRecDepth 100000 in
set_option maxHeartbeats 16000000 in
theorem request_calls (AE : Option Addr) (nE cE : Nat) (l : List Int) (A1 : Option Addr) (c1 : Nat) (w : World) (hc : l.length ≤ c1) (hC : (Kd.int .i64).C w A1 l.length l) : Calls Tryz.prog 11 #[.agg #[.slice none 0 0, .slice none 0 0], .slice AE nE cE, .slice A1 l.length c1] w fun e w' => ∃ p0 p1 p2 p3 p4 p5 : ByteArray, e = .returned (.agg #[.string p0, .string p1, .string p2, .string p3, .string p4, .string p5]) ∧ okU ⟨p0, p1⟩ = true ∧ okU ⟨p2, p3⟩ = true ∧ okU ⟨p4, p5⟩ = true ∧ Below w.heap.size w w' := by
  have HX := Aside0.mk (XQ.new w)
  by_cases hl : l.length < 4
  · have d1 : ((l.length : Int) < 4) = True := eq_true (by omega)
    clear hC hc
    go_enter Tryz.func11, Tryz.ntmps11
    go_upto_region 3 with (fail)
    generalize ((w.alloc (.cells #[.slice none 0 0, .slice none 0 0] 51)).alloc (.cells #[.string ⟨#[]⟩, .string ⟨#[]⟩, .string ⟨#[]⟩, .string ⟨#[]⟩, .string ⟨#[]⟩, .string ⟨#[]⟩] 44)).alloc (.cells #[.string ⟨#[]⟩, .string ⟨#[]⟩, .string ⟨#[]⟩, .string ⟨#[]⟩, .string ⟨#[]⟩, .string ⟨#[]⟩] 44) = w3 at HX ⊢
    clear d1
    go_wp2_with (first | (go_at_call 13; refine (uid_calls _ _).mono ?_; rintro e w2 ⟨t2, i2, rfl, ho2, hb2⟩; have HO2 := Aside0.mk ho2; have HX2 := Aside0.mk (HX1.out.step hb2); clear ho2 hb2; obtain ⟨q0, q1, q2, q3, q4, q5⟩ := cells6 HX2.out.b1; obtain ⟨f0, f1, f2, f3, f4, f5⟩ := froz6 HX2.out.b1) | (go_at_call 13; refine (uid_calls _ _).mono ?_; rintro e w1 ⟨t1, i1, rfl, ho1, hb1⟩; have HO1 := Aside0.mk ho1; have HX1 := Aside0.mk (HX0.out.step hb1); clear ho1 hb1) | (go_at_call 13; refine (uid_calls _ _).mono ?_; rintro e w0 ⟨t0, i0, rfl, ho0, hb0⟩; have HO0 := Aside0.mk ho0; have HX0 := Aside0.mk (HX.out.step hb0); clear ho0 hb0))
    (try simp only [Exit.inBlock, Exit.then])
    refine bodyPost_ret (results_cell_row rfl _ _ (w.heap.size + 1) 44 _ (0, 0) _ rfl (set6_blk HX2.out.b1 _ _ _ _ _ _) Tryz.underlying44 rfl (by kernel_rfl)) rfl ?_
    exact ⟨_, _, _, _, _, _, rfl, HO0.out, HO1.out, HO2.out, set6_below HX2.out.be (by omega) _ _ _ _ _ _⟩
  · have d1 : ((l.length : Int) < 4) = False := eq_false (by omega)
    obtain ⟨ad, rfl, _⟩ := Kd.at_int hC 0 (by omega) (by omega)
    have HL : Aside0 (∀ W, Below w.heap.size w W → W.cell? ad = some (.int .i64 (rd l 0)) ∧ W.cell? ⟨ad.block, ad.off + 1, none⟩ = some (.int .i64 (rd l 1)) ∧ W.cell? ⟨ad.block, ad.off + 2, none⟩ = some (.int .i64 (rd l 2))) := ⟨fun W hW => by
      have hC' := Kd.C_below hC hW
      obtain ⟨a0, h0, x0⟩ := Kd.at_int hC' 0 (by omega) (by omega)
      obtain ⟨a1, h1, x1⟩ := Kd.at_int hC' 1 (by omega) (by omega)
      obtain ⟨a2, h2, x2⟩ := Kd.at_int hC' 2 (by omega) (by omega)
      cases h0; cases h1; cases h2
      exact ⟨x0, x1, x2⟩⟩
    have HQ0 : Aside0 (0 < l.length) := ⟨by omega⟩
    have e0 : (0 < l.length) = True := eq_true (by omega)
    have e1 : ((1 : Int) < (l.length : Int)) = True := eq_true (by omega)
    have e2 : ((2 : Int) < (l.length : Int)) = True := eq_true (by omega)
    clear hC hc
    go_enter Tryz.func11, Tryz.ntmps11
    go_upto_region 4 with (fail)
    generalize ((w.alloc (.cells #[.slice none 0 0, .slice none 0 0] 51)).alloc (.cells #[.string ⟨#[]⟩, .string ⟨#[]⟩, .string ⟨#[]⟩, .string ⟨#[]⟩, .string ⟨#[]⟩, .string ⟨#[]⟩] 44)).alloc (.cells #[.string ⟨#[]⟩, .string ⟨#[]⟩, .string ⟨#[]⟩, .string ⟨#[]⟩, .string ⟨#[]⟩, .string ⟨#[]⟩] 44) = w3 at HX ⊢
    replace HX : Aside0 (XQ w w3.drew) := ⟨HX.out.step (below_drew1 (Below.refl _ _))⟩
    refine start_ (n := 14) (S := fun W => W.cell? ad = some (.int .i64 (rd l 0)) ∧ W.cell? ⟨ad.block, ad.off + 1, none⟩ = some (.int .i64 (rd l 1)) ∧ W.cell? ⟨ad.block, ad.off + 2, none⟩ = some (.int .i64 (rd l 2))) (ds := []) #[false, false, false, false, false, false, false, false, false, false, false, false, false, false] (by kernel_rfl) rfl rfl (HL.out _ HX.out.be) (fun hHeld => ?_)
    refine with_tabW rq4_tab rq4_bits (fun HT_ HW_ => ?_)
    generalize w3.drew = wd at HX hHeld ⊢
    refine pS_ 0 17 (fa 14 1) HT_ ?_
    refine pS_ 1 18 (fa 14 3) HT_ ?_
    refine pS_ 4 21 (fa 14 19) HT_ ?_
    refine pS_ 5 22 (fa 14 51) HT_ ?_
    refine pS_ 8 25 (fa 14 307) HT_ ?_
    refine pS_ 9 26 (fa 14 819) HT_ ?_
    refine tS_ 2 19 (fa 14 823) HT_ HW_ hHeld ?_
    refine tS_ 6 23 (fa 14 887) HT_ HW_ hHeld ?_
    refine tS_ 10 27 (fa 14 1911) HT_ HW_ hHeld ?_
    refine one_ (i := 3) (N := some 20) #[true, true, true, true, true, true, true, false, true, true, true, false, false, false] rfl rfl (one_of HT_.out (by kernel_rfl)) (by decide) (fun K hK => ?_)
    refine goes_ Tryz.func13 (by kernel_rfl) rfl #[.int .i64 (rd l 0), .slice none 0 0] (by rfl) rfl rfl gm_ ?_
    refine (uid_calls _ _).mono ?_
    rintro e wq0 ⟨ta, ia, rfl, ho0, hb⟩
    refine ⟨_, rfl, ?_⟩
    have HO0 := Aside0.mk ho0
    replace HX := Aside0.mk (HX.out.step hb)
    clear hb ho0
    refine hK.out _ _ (HL.out _ HX.out.be) (fun hHeld => ?_)
    clear hK K
    refine norm_ (a' := ?_) ?_ ?_
    rotate_left
    · show Act.put _ (some 20) _ = _
      simp only [Act.put, List.setIfInBounds_toArray, List.set_cons_zero, List.set_cons_succ, i64_w, i32_w]
      rfl
    refine one_ (i := 7) (N := some 24) #[true, true, true, true, true, true, true, true, true, true, true, false, false, false] rfl rfl (one_of HT_.out (by kernel_rfl)) (by decide) (fun K hK => ?_)
    refine goes_ Tryz.func13 (by kernel_rfl) rfl #[.int .i64 (rd l 1), .slice none 0 0] (by rfl) rfl rfl gm_ ?_
    refine (uid_calls _ _).mono ?_
    rintro e wq1 ⟨tb, ib, rfl, ho1, hb⟩
    refine ⟨_, rfl, ?_⟩
    have HO1 := Aside0.mk ho1
    replace HX := Aside0.mk (HX.out.step hb)
    clear hb ho1
    refine hK.out _ _ (HL.out _ HX.out.be) (fun hHeld => ?_)
    clear hK K
    refine norm_ (a' := ?_) ?_ ?_
    rotate_left
    · show Act.put _ (some 24) _ = _
      simp only [Act.put, List.setIfInBounds_toArray, List.set_cons_zero, List.set_cons_succ, i64_w, i32_w]
      rfl
    refine one_ (i := 11) (N := some 28) #[true, true, true, true, true, true, true, true, true, true, true, true, false, false] rfl rfl (one_of HT_.out (by kernel_rfl)) (by decide) (fun K hK => ?_)
    refine goes_ Tryz.func13 (by kernel_rfl) rfl #[.int .i64 (rd l 2), .slice none 0 0] (by rfl) rfl rfl gm_ ?_
    refine (uid_calls _ _).mono ?_
    rintro e wq2 ⟨tc, ic, rfl, ho2, hb⟩
    refine ⟨_, rfl, ?_⟩
    have HO2 := Aside0.mk ho2
    replace HX := Aside0.mk (HX.out.step hb)
    clear hb ho2
    refine hK.out _ _ (HL.out _ HX.out.be) (fun hHeld => ?_)
    clear hK K
    refine norm_ (a' := ?_) ?_ ?_
    rotate_left
    · show Act.put _ (some 28) _ = _
      simp only [Act.put, List.setIfInBounds_toArray, List.set_cons_zero, List.set_cons_succ, i64_w, i32_w]
      rfl
    refine pS_ 12 29 (fa 14 8191) HT_ ?_
    refine one_ (i := 13) (N := none) #[true, true, true, true, true, true, true, true, true, true, true, true, true, true] rfl rfl (one_of HT_.out (by kernel_rfl)) (by decide) (fun K hK => ?_)
    obtain ⟨q0, q1, q2, q3, q4, q5⟩ := cells6 HX.out.b2
    obtain ⟨f0, f1, f2, f3, f4, f5⟩ := froz6 HX.out.b2
    refine skip_ (w1 := ?_) (by rfl) rfl ?_ ?_
    rotate_left
    · go_simp
      rfl
    clear q0 q1 q2 q3 q4 q5 f0 f1 f2 f3 f4 f5
    have B0 : Aside0 (((((((wq2.setCell ⟨w.heap.size + 2, 0, none⟩ (.string ta)).setCell ⟨w.heap.size + 2, 1, none⟩ (.string ia)).setCell ⟨w.heap.size + 2, 2, none⟩ (.string tb)).setCell ⟨w.heap.size + 2, 3, none⟩ (.string ib)).setCell ⟨w.heap.size + 2, 4, none⟩ (.string tc)).setCell ⟨w.heap.size + 2, 5, none⟩ (.string ic)).heap[w.heap.size]? = some (.cells #[.slice none 0 0, .slice none 0 0] 51 (0, 0))) := ⟨set6_far HX.out.b0 (by omega) _ _ _ _ _ _⟩
    have B1 : Aside0 (((((((wq2.setCell ⟨w.heap.size + 2, 0, none⟩ (.string ta)).setCell ⟨w.heap.size + 2, 1, none⟩ (.string ia)).setCell ⟨w.heap.size + 2, 2, none⟩ (.string tb)).setCell ⟨w.heap.size + 2, 3, none⟩ (.string ib)).setCell ⟨w.heap.size + 2, 4, none⟩ (.string tc)).setCell ⟨w.heap.size + 2, 5, none⟩ (.string ic)).heap[w.heap.size + 1]? = some (.cells #[.string ⟨#[]⟩, .string ⟨#[]⟩, .string ⟨#[]⟩, .string ⟨#[]⟩, .string ⟨#[]⟩, .string ⟨#[]⟩] 44 (0, 0))) := ⟨set6_far HX.out.b1 (by omega) _ _ _ _ _ _⟩
    have B2 : Aside0 (((((((wq2.setCell ⟨w.heap.size + 2, 0, none⟩ (.string ta)).setCell ⟨w.heap.size + 2, 1, none⟩ (.string ia)).setCell ⟨w.heap.size + 2, 2, none⟩ (.string tb)).setCell ⟨w.heap.size + 2, 3, none⟩ (.string ib)).setCell ⟨w.heap.size + 2, 4, none⟩ (.string tc)).setCell ⟨w.heap.size + 2, 5, none⟩ (.string ic)).heap[w.heap.size + 2]? = some (.cells #[.string ta, .string ia, .string tb, .string ib, .string tc, .string ic] 44 (0, 0))) := ⟨set6_blk HX.out.b2 _ _ _ _ _ _⟩
    have BE : Aside0 (Below w.heap.size w ((((((wq2.setCell ⟨w.heap.size + 2, 0, none⟩ (.string ta)).setCell ⟨w.heap.size + 2, 1, none⟩ (.string ia)).setCell ⟨w.heap.size + 2, 2, none⟩ (.string tb)).setCell ⟨w.heap.size + 2, 3, none⟩ (.string ib)).setCell ⟨w.heap.size + 2, 4, none⟩ (.string tc)).setCell ⟨w.heap.size + 2, 5, none⟩ (.string ic))) := ⟨set6_below HX.out.be (by omega) _ _ _ _ _ _⟩
    generalize (((((wq2.setCell ⟨w.heap.size + 2, 0, none⟩ (.string ta)).setCell ⟨w.heap.size + 2, 1, none⟩ (.string ia)).setCell ⟨w.heap.size + 2, 2, none⟩ (.string tb)).setCell ⟨w.heap.size + 2, 3, none⟩ (.string ib)).setCell ⟨w.heap.size + 2, 4, none⟩ (.string tc)).setCell ⟨w.heap.size + 2, 5, none⟩ (.string ic) = w5 at B0 B1 B2 BE ⊢
    refine hK.out _ _ (HL.out _ BE.out) (fun hHeld => ?_)
    clear hK K
    refine done_ (done_of HT_.out (by kernel_rfl)) ?_
    have q0 : w5.cell? ⟨w.heap.size, 0, none⟩ = some (.slice none 0 0) := (blk_cell B0.out 0).trans rfl
    have q1 : w5.cell? ⟨w.heap.size, 1, none⟩ = some (.slice none 0 0) := (blk_cell B0.out 1).trans rfl
    go_wp2_with (go_at_call 22; refine (envs_nil _).mono ?_; rintro e w6 ⟨rfl, hb⟩; have C1 := Aside0.mk (blk_below B1.out hb); have C2 := Aside0.mk (blk_below B2.out hb); have CE := Aside0.mk (below_step BE.out hb); clear hb q0 q1; obtain ⟨q0, q1, q2, q3, q4, q5⟩ := cells6 C2.out; obtain ⟨r0, r1, r2, r3, r4, r5⟩ := cells6 C1.out; obtain ⟨f0, f1, f2, f3, f4, f5⟩ := froz6 C1.out)
    (try simp only [Exit.inBlock, Exit.then])
    refine bodyPost_ret (results_cell_row rfl _ _ (w.heap.size + 1) 44 _ (0, 0) _ rfl (set6_blk C1.out _ _ _ _ _ _) Tryz.underlying44 rfl (by kernel_rfl)) rfl ?_
    exact ⟨_, _, _, _, _, _, rfl, HO0.out, HO1.out, HO2.out, set6_below CE.out (by omega) _ _ _ _ _ _⟩
end Go.Proofs.YtelibndkkokadaaGreat.DC
