import Derived.Test.YtlhpkapcehjolaaDoorPureLib
namespace Go.Proofs.YtlhpkapcehjolaaDoor.Pure
open Go.RowKit Go.Proofs.YtlhpkapcehjolaaDoor.GNum Go.Proofs.YtlhpkapcehjolaaDoorW.PrintWords Go.Proofs.YtlhpkapcehjolaaDoorW.PrintLast
theorem NumEdges : chancellaw2_NumEdges.Pure := by
  intro a up hw
  have ha := inR_of_wf hw
  unfold chancellaw2_NumEdges.f
  rw [known_true]
  simp only [Option.bind_some, if_true]
  by_cases h0 : a ≤ 0
  · rw [if_pos h0]
  · rw [if_neg h0]
    have hr := ha
    unfold InR at hr
    cases up
    · rw [if_neg (by simp), wrap_in (x := -9223372036854775808 + a) (by unfold InR; omega)]
      by_cases h1 : a = 0
      · omega
      · rw [wrap_in (x := -9223372036854775808 + a - 1) (by unfold InR; omega), sub_eq (by unfold InR; omega) ha, sub_eq (by unfold InR; omega) ha,
          if_pos (by unfold InR; omega), if_neg (by unfold InR; omega)]
        simp only [Option.bind_some, if_true]
        rw [if_pos (by omega)]; rfl
    · rw [if_pos rfl, wrap_in (x := 9223372036854775807 - a) (by unfold InR; omega), wrap_in (x := 9223372036854775807 - a + 1) (by unfold InR; omega), add_eq (by unfold InR; omega) ha, add_eq (by unfold InR; omega) ha,
        if_pos (by unfold InR; omega), if_neg (by unfold InR; omega)]
      simp only [Option.bind_some, if_true]
      rw [if_pos (by omega)]; rfl
end Go.Proofs.YtlhpkapcehjolaaDoor.Pure
