import Derived.Test.YtelibndkkokadaaGB0
import Derived.Test.YtelibndkkokadaaEV90
import Derived.Test.YtelibndkkokadaaEV91
import Derived.Test.YtelibndkkokadaaEV92
namespace Go.Proofs.Ytelibndkkokadaa.EV
open Go.RowKit Go.Proofs.YtelibndkkokadaaW.PrintWords Go.Proofs.YtelibndkkokadaaW.PrintLast Go.Proofs.Ytelibndkkokadaa.HandV Go.Proofs.YtelibndkkokadaaW.PrintMore
open Go.Proofs.Ytelibndkkokadaa.GB
attribute [local go_sem] max2_int min2_int max_two min_two max_three min_three max_four min_four   -- for this text's walks alone
set_option linter.unusedVariables false
set_option linter.unusedSimpArgs false
-- IMPORT .EV90
-- IMPORT .EV91
-- IMPORT .EV92
/-- The law EvalVars answers true. -/
theorem vars_calls (A : Option Addr) (c : Nat) (l : List Int) (n : Int) (w : World) (hC : (Kd.int .i64).C w A l.length l) (hc : l.length ≤ c) : Calls Try.prog 12 #[.slice A l.length c, .int .i64 n] w fun e w' => e = .returned (.bool true) ∧ Below w.heap.size w w' := by
  have h1 := Int.tmod_lt_of_pos n (show (0 : Int) < 3 by decide)
  have h2 := GP.tmod_gt n 3 (by decide)
  have h3 : (if Int.tmod n 3 < 0 then Int.tmod n 3 + 3 else Int.tmod n 3) = 0 ∨ (if Int.tmod n 3 < 0 then Int.tmod n 3 + 3 else Int.tmod n 3) = 1 ∨ (if Int.tmod n 3 < 0 then Int.tmod n 3 + 3 else Int.tmod n 3) = 2 := by split <;> omega
  rcases h3 with h | h | h
  · exact vars0 l A c n w hc hC h
  · exact vars1 l A c n w hc hC h
  · exact vars2 l A c n w hc hC h
end Go.Proofs.Ytelibndkkokadaa.EV
