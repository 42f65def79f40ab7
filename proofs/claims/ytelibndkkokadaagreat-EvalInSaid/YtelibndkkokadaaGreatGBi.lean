-- Written by wip/tools/gprint.py over the kit's printer.
import Derived.Test.YtelibndkkokadaaGreatGB0
import Derived.Test.YtelibndkkokadaaGreatJa
import Derived.Test.YtelibndkkokadaaGreatSqz
namespace Go.Proofs.YtelibndkkokadaaGreat.GB
open Go.RowKit Go.Proofs.YtelibndkkokadaaGreatW.PrintWords Go.Proofs.YtelibndkkokadaaGreatW.PrintLast Go.Proofs.YtelibndkkokadaaGreat.HandV Go.Proofs.YtelibndkkokadaaGreatW.PrintMore
attribute [local go_sem] max2_int min2_int max_two min_two max_three min_three max_four min_four   -- for this text's walks alone
set_option linter.unusedVariables false
set_option linter.unusedSimpArgs false

-- BREAK
/-! ### above_In: function 39, given -/
/-- Is one in another one? -/
def above_In.f (l0 : List S32) (a1_0 a1_1 a2_0 a2_1 : ByteArray) : Option Bool :=
 if GA.okL l0 = true ∧ GA.okU ⟨a1_0, a1_1⟩ = true ∧ GA.okU ⟨a2_0, a2_1⟩ = true then some (GA.inF l0 ⟨a1_0, a1_1⟩ ⟨a2_0, a2_1⟩) else none
theorem above_In.calls (A0 : Option Addr) (c0 : Nat) (l0 : List S32) (a1_0 : ByteArray) (a1_1 : ByteArray) (a2_0 : ByteArray) (a2_1 : ByteArray) (r : Bool) (w : World) (hr0 : Kd.C k32 w A0 l0.length l0) (hc0 : l0.length ≤ c0) (h : above_In.f l0 a1_0 a1_1 a2_0 a2_1 = some r) :
  Calls Tryz.prog 39 #[.slice A0 l0.length c0, .agg #[.string a1_0, .string a1_1], .agg #[.string a2_0, .string a2_1]] w fun e w' => e = .returned (.bool r) ∧ Below w.heap.size w w' := by
 unfold above_In.f at h
 by_cases hs : GA.okL l0 = true ∧ GA.okU ⟨a1_0, a1_1⟩ = true ∧ GA.okU ⟨a2_0, a2_1⟩ = true
 ·
  rw [if_pos hs] at h
  obtain rfl := Option.some.inj h
  exact GA.in_calls0 l0 hs.1 ⟨a1_0, a1_1⟩ ⟨a2_0, a2_1⟩ hs.2.1 hs.2.2 A0 c0 w hc0 hr0
 ·
  rw [if_neg hs] at h
  exact absurd h (by simp)

-- NOT PRINTED: function 54 (eval_world_in)

end Go.Proofs.YtelibndkkokadaaGreat.GB
