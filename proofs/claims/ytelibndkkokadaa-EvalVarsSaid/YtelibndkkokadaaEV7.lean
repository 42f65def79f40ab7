import Derived.Test.YtelibndkkokadaaGB0
import Derived.Test.YtelibndkkokadaaEV6
import Derived.Test.YtelibndkkokadaaSqz
import Derived.Deep.RegionWith
import Derived.Deep.CutRange
namespace Go.Proofs.Ytelibndkkokadaa.EV
open Go.RowKit Go.Proofs.YtelibndkkokadaaW.PrintWords Go.Proofs.YtelibndkkokadaaW.PrintLast Go.Proofs.Ytelibndkkokadaa.HandV Go.Proofs.YtelibndkkokadaaW.PrintMore
open Go.Proofs.Ytelibndkkokadaa.GB
attribute [local go_sem] max2_int min2_int max_two min_two max_three min_three max_four min_four   -- for this text's walks alone
set_option linter.unusedVariables false
set_option linter.unusedSimpArgs false
-- IMPORT .EV6
-- IMPORT .Sqz
-- IMPORT Derived.Deep.RegionWith
-- IMPORT Derived.Deep.CutRange
/-- The boxes of known. -/
structure KS (w W : World) : Prop where
  b1 : W.heap[w.heap.size]? = some (.cells #[.int .i64 1, .bool false, .int .i64 0, .string ⟨#[]⟩, .string ⟨#[]⟩, .string ⟨#[]⟩, .slice none 0 0] 72 (0, 0))
  bk : W.heap[w.heap.size + 1]? = some (.cells #[.int .i64 2, .bool false, .int .i64 1, .string ⟨#[]⟩, .string ⟨#[]⟩, .string ⟨#[]⟩, .slice none 0 0, .int .i64 1, .bool true, .int .i64 0, .string ⟨#[]⟩, .string ⟨#[]⟩, .string ⟨#[]⟩, .slice none 0 0] 72 (0, 0))
  b2 : W.heap[w.heap.size + 2]? = some (.cells #[.int .i64 14, .bool false, .int .i64 0, .string ⟨#[]⟩, .string ⟨#[]⟩, .string ⟨#[]⟩, .slice (some ⟨w.heap.size + 1, 0, none⟩) 2 2] 72 (0, 0))
  be : Below w.heap.size w W
theorem KS.step {w W W' : World} (h : KS w W) (hb : Below W.heap.size W W') : KS w W' := ⟨blk_below h.b1 hb, blk_below h.bk hb, blk_below h.b2 hb, below_step h.be hb⟩
theorem KS.alloc {w W : World} (h : KS w W) (o : Obj) : KS w (W.alloc o) := h.step (below_alloc (Below.refl _ _) o)
theorem says_bad {w W : World} (h : KS w W) : Says (.agg #[.slice none 0 0, .string ⟨#[]⟩, .string ⟨#[]⟩, .string ⟨#[]⟩, .string ⟨#[]⟩, .string ⟨#[]⟩, .string ⟨#[]⟩]) (.agg #[.int .i64 14, .bool false, .int .i64 0, .string ⟨#[]⟩, .string ⟨#[]⟩, .string ⟨#[]⟩, .slice (some ⟨w.heap.size + 1, 0, none⟩) 2 2]) ⟨0, false, 0, ⟨#[]⟩, ⟨#[]⟩, ⟨#[]⟩⟩ 16 W :=
  expr_two none 0 0 ⟨#[]⟩ ⟨#[]⟩ ⟨#[]⟩ ⟨#[]⟩ ⟨#[]⟩ ⟨#[]⟩ 14 false 0 ⟨#[]⟩ ⟨#[]⟩ ⟨#[]⟩ (w.heap.size + 1) 2 2 false 1 ⟨#[]⟩ ⟨#[]⟩ ⟨#[]⟩ (.slice none 0 0) 1 true 0 ⟨#[]⟩ ⟨#[]⟩ ⟨#[]⟩ (.slice none 0 0) ⟨2, false, 1, ⟨#[]⟩, ⟨#[]⟩, ⟨#[]⟩⟩ ⟨1, true, 0, ⟨#[]⟩, ⟨#[]⟩, ⟨#[]⟩⟩ ⟨0, false, 0, ⟨#[]⟩, ⟨#[]⟩, ⟨#[]⟩⟩ 16 (by decide) (by decide) W h.bk
    (expr_leaf none 0 0 ⟨#[]⟩ ⟨#[]⟩ ⟨#[]⟩ ⟨#[]⟩ ⟨#[]⟩ ⟨#[]⟩ 2 false 1 ⟨#[]⟩ ⟨#[]⟩ ⟨#[]⟩ (.slice none 0 0) ⟨2, false, 1, ⟨#[]⟩, ⟨#[]⟩, ⟨#[]⟩⟩ (by decide) (fun W => leaf_long none 0 0 ⟨#[]⟩ ⟨#[]⟩ ⟨#[]⟩ ⟨#[]⟩ ⟨#[]⟩ ⟨#[]⟩ false 1 ⟨#[]⟩ ⟨#[]⟩ ⟨#[]⟩ (.slice none 0 0) W) _)
    (expr_leaf none 0 0 ⟨#[]⟩ ⟨#[]⟩ ⟨#[]⟩ ⟨#[]⟩ ⟨#[]⟩ ⟨#[]⟩ 1 true 0 ⟨#[]⟩ ⟨#[]⟩ ⟨#[]⟩ (.slice none 0 0) ⟨1, true, 0, ⟨#[]⟩, ⟨#[]⟩, ⟨#[]⟩⟩ (by decide) (fun W => leaf_bool none 0 0 ⟨#[]⟩ ⟨#[]⟩ ⟨#[]⟩ ⟨#[]⟩ ⟨#[]⟩ ⟨#[]⟩ true 0 ⟨#[]⟩ ⟨#[]⟩ ⟨#[]⟩ (.slice none 0 0) W) _)
    (double_type none 0 0 ⟨#[]⟩ ⟨#[]⟩ ⟨#[]⟩ ⟨#[]⟩ ⟨#[]⟩ ⟨#[]⟩ false 1 ⟨#[]⟩ ⟨#[]⟩ ⟨#[]⟩ true 0 ⟨#[]⟩ ⟨#[]⟩ ⟨#[]⟩ W)
set_option maxRecDepth 100000 in
set_option maxHeartbeats 16000000 in
theorem known13_calls (w : World) : Calls Try.prog 41 #[] w fun e w' => e = .returned (.bool true) ∧ Below w.heap.size w w' := by
  have HX : Aside0 (KS w (((w.alloc (.cells #[.int .i64 1, .bool false, .int .i64 0, .string ⟨#[]⟩, .string ⟨#[]⟩, .string ⟨#[]⟩, .slice none 0 0] 72)).alloc (.cells #[.int .i64 2, .bool false, .int .i64 1, .string ⟨#[]⟩, .string ⟨#[]⟩, .string ⟨#[]⟩, .slice none 0 0, .int .i64 1, .bool true, .int .i64 0, .string ⟨#[]⟩, .string ⟨#[]⟩, .string ⟨#[]⟩, .slice none 0 0] 72)).alloc (.cells #[.int .i64 14, .bool false, .int .i64 0, .string ⟨#[]⟩, .string ⟨#[]⟩, .string ⟨#[]⟩, .slice (some ⟨w.heap.size + 1, 0, none⟩) 2 2] 72))) := ⟨⟨blk_alloc (blk_alloc (blk_new _ _) _) _, blk_alloc (bn2 _ _ _) _, bn3 _ _ _ _, below_alloc (below_alloc (below_alloc (Below.refl _ _) _) _) _⟩⟩
  go_enter Try.func41, Try.ntmps41
  go_upto_region 3 with (fail)
  generalize ((w.alloc (.cells #[.int .i64 1, .bool false, .int .i64 0, .string ⟨#[]⟩, .string ⟨#[]⟩, .string ⟨#[]⟩, .slice none 0 0] 72)).alloc (.cells #[.int .i64 2, .bool false, .int .i64 1, .string ⟨#[]⟩, .string ⟨#[]⟩, .string ⟨#[]⟩, .slice none 0 0, .int .i64 1, .bool true, .int .i64 0, .string ⟨#[]⟩, .string ⟨#[]⟩, .string ⟨#[]⟩, .slice none 0 0] 72)).alloc (.cells #[.int .i64 14, .bool false, .int .i64 0, .string ⟨#[]⟩, .string ⟨#[]⟩, .string ⟨#[]⟩, .slice (some ⟨w.heap.size + 1, 0, none⟩) 2 2] 72) = w3 at HX ⊢
  obtain ⟨q0, q1, q2, q3, q4, q5, q6⟩ := cells7 HX.out.b1
  obtain ⟨r0, r1, r2, r3, r4, r5, r6⟩ := cells7 HX.out.b2
  have HC1 : Aside0 (∀ W g, W.heap[g]? = some (.cells #[.int .i64 1, .bool false, .int .i64 0, .string ⟨#[]⟩, .string ⟨#[]⟩, .string ⟨#[]⟩, .slice none 0 0, .int .i64 14, .bool false, .int .i64 0, .string ⟨#[]⟩, .string ⟨#[]⟩, .string ⟨#[]⟩, .slice (some ⟨w.heap.size + 1, 0, none⟩) 2 2] 72 (0, 0)) → Calls Try.prog 43 #[.slice none 0 0, .agg #[.string ⟨#[]⟩, .string ⟨#[]⟩, .string ⟨#[]⟩, .string ⟨#[]⟩, .string ⟨#[]⟩, .string ⟨#[]⟩], .agg #[.int .i64 23, .bool false, .int .i64 0, .string ⟨#[]⟩, .string ⟨#[]⟩, .string ⟨#[]⟩, .slice (some ⟨g, 0, none⟩) 2 2]] W fun e w' => e = .returned (.tuple #[.agg #[.int .i64 1, .bool false, .int .i64 0, .string ⟨#[]⟩, .string ⟨#[]⟩, .string ⟨#[]⟩, .slice none 0 0], .int .i64 0]) ∧ Below W.heap.size W w') := ⟨fun W g hk => Expr_calls none 0 0 ⟨#[]⟩ ⟨#[]⟩ ⟨#[]⟩ ⟨#[]⟩ ⟨#[]⟩ ⟨#[]⟩ 23 false 0 ⟨#[]⟩ ⟨#[]⟩ ⟨#[]⟩ (.slice (some ⟨g, 0, none⟩) 2 2) ⟨1, false, 0, ⟨#[]⟩, ⟨#[]⟩, ⟨#[]⟩⟩ 0 W (expr_and none 0 0 ⟨#[]⟩ ⟨#[]⟩ ⟨#[]⟩ ⟨#[]⟩ ⟨#[]⟩ ⟨#[]⟩ false 0 ⟨#[]⟩ ⟨#[]⟩ ⟨#[]⟩ g 2 1 false 0 ⟨#[]⟩ ⟨#[]⟩ ⟨#[]⟩ (.slice none 0 0) 14 false 0 ⟨#[]⟩ ⟨#[]⟩ ⟨#[]⟩ (.slice (some ⟨w.heap.size + 1, 0, none⟩) 2 2) 0 ⟨#[]⟩ ⟨#[]⟩ ⟨#[]⟩ W hk (expr_leaf none 0 0 ⟨#[]⟩ ⟨#[]⟩ ⟨#[]⟩ ⟨#[]⟩ ⟨#[]⟩ ⟨#[]⟩ 1 false 0 ⟨#[]⟩ ⟨#[]⟩ ⟨#[]⟩ (.slice none 0 0) ⟨1, false, 0, ⟨#[]⟩, ⟨#[]⟩, ⟨#[]⟩⟩ (by decide) (fun W => leaf_bool none 0 0 ⟨#[]⟩ ⟨#[]⟩ ⟨#[]⟩ ⟨#[]⟩ ⟨#[]⟩ ⟨#[]⟩ false 0 ⟨#[]⟩ ⟨#[]⟩ ⟨#[]⟩ (.slice none 0 0) W) _))⟩
  have HC2 : Aside0 (∀ W, KS w W → Calls Try.prog 43 #[.slice none 0 0, .agg #[.string ⟨#[]⟩, .string ⟨#[]⟩, .string ⟨#[]⟩, .string ⟨#[]⟩, .string ⟨#[]⟩, .string ⟨#[]⟩], .agg #[.int .i64 14, .bool false, .int .i64 0, .string ⟨#[]⟩, .string ⟨#[]⟩, .string ⟨#[]⟩, .slice (some ⟨w.heap.size + 1, 0, none⟩) 2 2]] W fun e w' => e = .returned (.tuple #[.agg #[.int .i64 0, .bool false, .int .i64 0, .string ⟨#[]⟩, .string ⟨#[]⟩, .string ⟨#[]⟩, .slice none 0 0], .int .i64 16]) ∧ Below W.heap.size W w') := ⟨fun W h => Expr_calls none 0 0 ⟨#[]⟩ ⟨#[]⟩ ⟨#[]⟩ ⟨#[]⟩ ⟨#[]⟩ ⟨#[]⟩ 14 false 0 ⟨#[]⟩ ⟨#[]⟩ ⟨#[]⟩ (.slice (some ⟨w.heap.size + 1, 0, none⟩) 2 2) ⟨0, false, 0, ⟨#[]⟩, ⟨#[]⟩, ⟨#[]⟩⟩ 16 W (says_bad h)⟩
  go_upto_region 4 with (go_at_call 43; refine (HC1.out _ _ (blk_new _ _)).mono ?_; rintro e w4 ⟨rfl, hb⟩; have HX4 := Aside0.mk ((HX.out.alloc _).step hb); clear hb q0 q1 q2 q3 q4 q5 q6 r0 r1 r2 r3 r4 r5 r6)
  have HX5 : Aside0 (KS w (w4.alloc (.cells #[.int .i64 1, .bool false, .int .i64 0, .string ⟨#[]⟩, .string ⟨#[]⟩, .string ⟨#[]⟩, .slice none 0 0] 55))) := ⟨HX4.out.alloc _⟩
  have H3 : Aside0 ((w4.alloc (.cells #[.int .i64 1, .bool false, .int .i64 0, .string ⟨#[]⟩, .string ⟨#[]⟩, .string ⟨#[]⟩, .slice none 0 0] 55)).heap[w4.heap.size]? = some (.cells #[.int .i64 1, .bool false, .int .i64 0, .string ⟨#[]⟩, .string ⟨#[]⟩, .string ⟨#[]⟩, .slice none 0 0] 55 (0, 0))) := ⟨blk_new _ _⟩
  generalize w4.alloc (.cells #[.int .i64 1, .bool false, .int .i64 0, .string ⟨#[]⟩, .string ⟨#[]⟩, .string ⟨#[]⟩, .slice none 0 0] 55) = w5 at HX5 H3 ⊢
  generalize w4.heap.size = g3 at H3 ⊢
  clear HX4 HX HC1
  obtain ⟨r0, r1, r2, r3, r4, r5, r6⟩ := cells7 HX5.out.b2
  go_wp2_with (go_at_call 43; refine (HC2.out _ HX5.out).mono ?_; rintro e w6 ⟨rfl, hb⟩; have HB6 : Aside0 (Below w.heap.size w w6) := ⟨below_step HX5.out.be hb⟩; have H36 := blk_below H3.out hb; have y0 : ∀ o, (w6.alloc o).cell? ⟨g3, 0, none⟩ = some (.int .i64 1) := fun o => (blk_cell (blk_alloc H36 o) 0).trans rfl; have y1 : ∀ o, (w6.alloc o).cell? ⟨g3, 1, none⟩ = some (.bool false) := fun o => (blk_cell (blk_alloc H36 o) 1).trans rfl; clear hb H36 r0 r1 r2 r3 r4 r5 r6)
  go_ret
  exact ⟨rfl, below_alloc HB6.out _⟩
end Go.Proofs.Ytelibndkkokadaa.EV
