import Derived.Test.YtfmghijmcgkpiaaGS0
import Derived.Test.YtfmghijmcgkpiaaE20
namespace Go.Proofs.Ytfmghijmcgkpiaa.GE
open Go.RowKit Go.Proofs.YtfmghijmcgkpiaaW.PrintWords Go.Proofs.YtfmghijmcgkpiaaW.PrintLast Go.Proofs.Ytfmghijmcgkpiaa.HandV Go.Proofs.YtfmghijmcgkpiaaW.PrintMore
open Go.Proofs.Ytfmghijmcgkpiaa.GS
attribute [local go_sem] max2_int min2_int max_two min_two max_three min_three max_four min_four   -- for this text's walks alone
set_option linter.unusedVariables false
set_option linter.unusedSimpArgs false
-- IMPORT .E20
/-- The law answers true. -/
theorem sums_calls (a b op deep : Int) (ha2 : a ≤ 9223372036854775807) (hb2 : b ≤ 9223372036854775807) (w : World) : Calls Try.prog 8 #[.int .i64 a, .int .i64 b, .int .i64 op, .int .i64 deep] w fun e w' => e = .returned (.bool true) ∧ Below w.heap.size w w' := by
  by_cases h : a < 0 ∨ b < 0
  · exact sums_early a b op deep h w
  have ha : 0 ≤ a := by omega
  have hb : 0 ≤ b := by omega
  have iA : InR a := by unfold InR; omega
  have iB : InR b := by unfold InR; omega
  have hp : 0 ≤ a * b := Int.mul_nonneg ha hb
  obtain ⟨o, ho, ho0, ho3⟩ := w3_tot op
  obtain ⟨d, hd, hd0, hd3⟩ := w3_tot deep
  have hc : o = 0 ∨ o = 1 ∨ o = 2 := by omega
  rcases hc with rfl | rfl | rfl
  · by_cases h1 : a = 0
    · exact sums_c1 a b op deep d ha hb ha2 hb2 h1 (by rw [h1, Int.zero_mul]; decide) ho hd hd0 hd3 w
    · by_cases h3 : b = 0
      · exact sums_c2 a b op deep d ha hb ha2 hb2 h1 h3 (by rw [h3, Int.mul_zero]; decide) ho hd hd0 hd3 w
      · have hpc := prod_check iA iB h3 (by omega) (by omega)
        by_cases hq : wrap64 (Int.tdiv (wrap64 (a * b)) b) = a
        · have hin := hpc.1 hq
          exact sums_c3 a b op deep d ha hb ha2 hb2 h1 h3 hq (by rw [wrap_in hin]; omega) (by unfold InR at hin; omega) ho hd hd0 hd3 w
        · exact sums_c4 a b op deep d ha hb ha2 hb2 h1 h3 hq (Classical.byContradiction fun hn => hq (hpc.2 (by unfold InR; omega))) ho hd hd0 hd3 w
  · by_cases h1 : wrap64 (a + b) < 0
    · exact sums_c6 a b op deep d ha hb ha2 hb2 h1 ((over_add a b ha hb ha2 hb2).1 h1) ho hd hd0 hd3 w
    · exact sums_c7 a b op deep d ha hb ha2 hb2 h1 (fun hn => h1 ((over_add a b ha hb ha2 hb2).2 hn)) ho hd hd0 hd3 w
  · exact sums_c8 a b op deep d ha hb ha2 hb2 ho hd hd0 hd3 w
theorem le_of_wf {x : Int} (h : (Lit.int .i64 x).wf = true) : x ≤ 9223372036854775807 := (inR_of_wf h).2
end Go.Proofs.Ytfmghijmcgkpiaa.GE
