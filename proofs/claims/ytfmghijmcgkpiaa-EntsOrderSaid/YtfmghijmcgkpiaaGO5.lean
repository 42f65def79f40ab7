-- Written by wip/tools/gprint.py over the kit's printer.
import Derived.Test.YtfmghijmcgkpiaaGO0
import Derived.Test.YtfmghijmcgkpiaaSqz
namespace Go.Proofs.Ytfmghijmcgkpiaa.GO
open Go.RowKit Go.Proofs.YtfmghijmcgkpiaaW.PrintWords Go.Proofs.YtfmghijmcgkpiaaW.PrintLast Go.Proofs.Ytfmghijmcgkpiaa.HandV Go.Proofs.YtfmghijmcgkpiaaW.PrintMore
attribute [local go_sem] max2_int min2_int max_two min_two max_three min_three max_four min_four   -- for this text's walks alone
set_option linter.unusedVariables false
set_option linter.unusedSimpArgs false

/-! ### chancelref3_LessUid: function 31 -/
def chancelref3_LessUid.f (a0_0 : ByteArray) (a0_1 : ByteArray) (a1_0 : ByteArray) (a1_1 : ByteArray) : Option (Bool) := if a0_0.toList = a1_0.toList then (some (Op.bytesLess a0_1.toList a1_1.toList)) else (some (Op.bytesLess a0_0.toList a1_0.toList))
set_option maxHeartbeats 8000000 in
set_option maxRecDepth 100000 in
theorem chancelref3_LessUid.calls (a0_0 : ByteArray) (a0_1 : ByteArray) (a1_0 : ByteArray) (a1_1 : ByteArray) (r : Bool) (w : World) (h : chancelref3_LessUid.f a0_0 a0_1 a1_0 a1_1 = some r) :
  Calls Try.prog 31 #[.agg #[.string a0_0, .string a0_1], .agg #[.string a1_0, .string a1_1]] w fun e w' => e = .returned (.bool r) ∧ Below w.heap.size w w' := by
 have hu28 := Try.underlying28
 have HB := aZ_ (Below.refl w.heap.size w)
 have H : (if a0_0.toList = a1_0.toList then (some (Op.bytesLess a0_1.toList a1_1.toList)) else (some (Op.bytesLess a0_0.toList a1_0.toList))) = some r := h
 clear h
 by_cases c3 : a0_0.toList = a1_0.toList
 ·
  rw [if_pos c3] at H
  have c3b0 : (a0_0.toList == a1_0.toList) = true := beq_iff_eq.mpr c3
  have c3b1 : (a0_0.toList != a1_0.toList) = false := bne_eq_false_iff_eq.mpr c3
  clear c3
  obtain rfl := Option.some.inj H
  go_enter Try.func31, Try.ntmps31
  go_wp2_with (first | ((with_reducible refine gate_dst (N := 2) rfl ?_); refine bxE 2 #[.string a0_0, .string a0_1] 28 ?_; intro gb166 hg w4 hbox hb; have BK166 := aZ_ (hbox); have GW166 := aZ_ ((by rw [hg]; exact (below_size (bl HB)) : w.heap.size ≤ gb166)); have GE166 := aZ_ ((by rw [hg]; exact (below_size (bl HB)) : w.heap.size ≤ gb166)); replace HB := aZ_ (below_step (bl HB) hb); clear hb hbox hg) | ((with_reducible refine gate_dst (N := 3) rfl ?_); refine bxE 3 #[.string a1_0, .string a1_1] 28 ?_; intro gb167 hg w5 hbox hb; have BK167 := aZ_ (hbox); have GW167 := aZ_ ((by rw [hg]; exact (below_size (bl1 HB GE166)) : w.heap.size ≤ gb167)); have GE167 := aZ_ ((by rw [hg]; exact (below_size (bl1 HB GE166)) : w.heap.size ≤ gb167)); replace HB := aZ_ (below_step (bl1 HB GE166) hb); have NB166_167 := aZ_ ((by rw [hg]; exact Nat.ne_of_lt (blk_lt (g := gb166) (o := .cells #[.string a0_0, .string a0_1] 28 (0, 0)) (bk BK166)) : gb166 ≠ gb167)); have NB167_166 := aZ_ ((by rw [hg]; exact Nat.ne_of_gt (blk_lt (g := gb166) (o := .cells #[.string a0_0, .string a0_1] 28 (0, 0)) (bk BK166)) : gb167 ≠ gb166)); replace BK166 := aZ_ (blk_below (g := gb166) (o := .cells #[.string a0_0, .string a0_1] 28 (0, 0)) (bk BK166) hb); clear hb hbox hg; have hnb6 := NB166_167.out; have hnc6 := NB167_166.out; obtain ⟨hcz7_0, hcz7_1, hfz7_0, hfz7_1⟩ := bc2 BK166; obtain ⟨hcz8_0, hcz8_1, hfz8_0, hfz8_1⟩ := bc2 BK167))
  go_ret
  exact ⟨by first | rfl | (simp [errW_none, errW_some] <;> rfl) | (simp [*, errW_none, errW_some] <;> rfl), bl2 HB GE166 GE167⟩
 ·
  rw [if_neg c3] at H
  have c3b0 : (a0_0.toList == a1_0.toList) = false := beq_eq_false_iff_ne.mpr c3
  have c3b1 : (a0_0.toList != a1_0.toList) = true := bne_iff_ne.mpr c3
  obtain rfl := Option.some.inj H
  go_enter Try.func31, Try.ntmps31
  go_wp2_with (first | ((with_reducible refine gate_dst (N := 2) rfl ?_); refine bxE 2 #[.string a0_0, .string a0_1] 28 ?_; intro gb166 hg w9 hbox hb; have BK166 := aZ_ (hbox); have GW166 := aZ_ ((by rw [hg]; exact (below_size (bl HB)) : w.heap.size ≤ gb166)); have GE166 := aZ_ ((by rw [hg]; exact (below_size (bl HB)) : w.heap.size ≤ gb166)); replace HB := aZ_ (below_step (bl HB) hb); clear hb hbox hg) | ((with_reducible refine gate_dst (N := 3) rfl ?_); refine bxE 3 #[.string a1_0, .string a1_1] 28 ?_; intro gb167 hg w10 hbox hb; have BK167 := aZ_ (hbox); have GW167 := aZ_ ((by rw [hg]; exact (below_size (bl1 HB GE166)) : w.heap.size ≤ gb167)); have GE167 := aZ_ ((by rw [hg]; exact (below_size (bl1 HB GE166)) : w.heap.size ≤ gb167)); replace HB := aZ_ (below_step (bl1 HB GE166) hb); have NB166_167 := aZ_ ((by rw [hg]; exact Nat.ne_of_lt (blk_lt (g := gb166) (o := .cells #[.string a0_0, .string a0_1] 28 (0, 0)) (bk BK166)) : gb166 ≠ gb167)); have NB167_166 := aZ_ ((by rw [hg]; exact Nat.ne_of_gt (blk_lt (g := gb166) (o := .cells #[.string a0_0, .string a0_1] 28 (0, 0)) (bk BK166)) : gb167 ≠ gb166)); replace BK166 := aZ_ (blk_below (g := gb166) (o := .cells #[.string a0_0, .string a0_1] 28 (0, 0)) (bk BK166) hb); clear hb hbox hg; have hnb11 := NB166_167.out; have hnc11 := NB167_166.out; obtain ⟨hcz12_0, hcz12_1, hfz12_0, hfz12_1⟩ := bc2 BK166; obtain ⟨hcz13_0, hcz13_1, hfz13_0, hfz13_1⟩ := bc2 BK167))
  go_ret
  exact ⟨by first | rfl | (simp [errW_none, errW_some] <;> rfl) | (simp [*, errW_none, errW_some] <;> rfl), bl2 HB GE166 GE167⟩

end Go.Proofs.Ytfmghijmcgkpiaa.GO
