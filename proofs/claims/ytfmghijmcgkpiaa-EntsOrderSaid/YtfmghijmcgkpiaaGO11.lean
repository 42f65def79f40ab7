-- Written by wip/tools/gprint.py over the kit's printer.
import Derived.Test.YtfmghijmcgkpiaaGO0
import Derived.Test.YtfmghijmcgkpiaaEf
import Derived.Test.YtfmghijmcgkpiaaSqz
namespace Go.Proofs.Ytfmghijmcgkpiaa.GO
open Go.RowKit Go.Proofs.YtfmghijmcgkpiaaW.PrintWords Go.Proofs.YtfmghijmcgkpiaaW.PrintLast Go.Proofs.Ytfmghijmcgkpiaa.HandV Go.Proofs.YtfmghijmcgkpiaaW.PrintMore
attribute [local go_sem] max2_int min2_int max_two min_two max_three min_three max_four min_four   -- for this text's walks alone
set_option linter.unusedVariables false
set_option linter.unusedSimpArgs false

-- BREAK
/-! ### ents_Same: function 30, given -/
/-- Is all the same in two entities? -/
def ents_Same.f (a0_0 a0_1 : ByteArray) (l0_2 : List S28) (l0_3 : List S49) (a1_0 a1_1 : ByteArray) (l1_2 : List S28) (l1_3 : List S49) : Option Bool :=
 if l0_2.length ≤ 1000000 then some (GT.sameEn ⟨⟨a0_0, a0_1⟩, l0_2, l0_3⟩ ⟨⟨a1_0, a1_1⟩, l1_2, l1_3⟩) else none
theorem ents_Same.calls (a0_0 : ByteArray) (a0_1 : ByteArray) (A0_2 : Option Addr) (c0_2 : Nat) (l0_2 : List S28) (A0_3 : Option Addr) (c0_3 : Nat) (l0_3 : List S49) (a1_0 : ByteArray) (a1_1 : ByteArray) (A1_2 : Option Addr) (c1_2 : Nat) (l1_2 : List S28) (A1_3 : Option Addr) (c1_3 : Nat) (l1_3 : List S49) (r : Bool) (w : World) (hr0_2 : Kd.C k28 w A0_2 l0_2.length l0_2) (hc0_2 : l0_2.length ≤ c0_2) (hr0_3 : Kd.C k49 w A0_3 l0_3.length l0_3) (hc0_3 : l0_3.length ≤ c0_3) (hr1_2 : Kd.C k28 w A1_2 l1_2.length l1_2) (hc1_2 : l1_2.length ≤ c1_2) (hr1_3 : Kd.C k49 w A1_3 l1_3.length l1_3) (hc1_3 : l1_3.length ≤ c1_3) (h : ents_Same.f a0_0 a0_1 l0_2 l0_3 a1_0 a1_1 l1_2 l1_3 = some r) :
  Calls Try.prog 30 #[.agg #[.string a0_0, .string a0_1, .slice A0_2 l0_2.length c0_2, .slice A0_3 l0_3.length c0_3], .agg #[.string a1_0, .string a1_1, .slice A1_2 l1_2.length c1_2, .slice A1_3 l1_3.length c1_3]] w fun e w' => e = .returned (.bool r) ∧ Below w.heap.size w w' := by
 unfold ents_Same.f at h
 by_cases hs : l0_2.length ≤ 1000000
 ·
  rw [if_pos hs] at h
  obtain rfl := Option.some.inj h
  exact GT.same_ent ⟨⟨a0_0, a0_1⟩, l0_2, l0_3⟩ ⟨⟨a1_0, a1_1⟩, l1_2, l1_3⟩ hs A0_2 A0_3 A1_2 A1_3 c0_2 c0_3 c1_2 c1_3 w hc0_2 hr0_2 hc0_3 hr0_3 hc1_2 hr1_2 hc1_3 hr1_3
 ·
  rw [if_neg hs] at h
  exact absurd h (by simp)

end Go.Proofs.Ytfmghijmcgkpiaa.GO
