import Derived.Test.YtelibndkkokadaaGreatWWords
import Derived.Deep.Draws
/-! No library table is told of: the seat's rows lay none. -/
namespace Go.Proofs.YtelibndkkokadaaGreat.HandV
open Go.RowKit Go.Proofs.YtelibndkkokadaaGreatW.PrintWords
def Tb (_ : World) : Prop := True
theorem Tb.below {w w' : World} (_ : Tb w) (_ : Below w.heap.size w w') : Tb w' := trivial
theorem Tb.drawn {w w' : World} (_ : Tb w) (_ : Drawn0 w w') : Tb w' := trivial
/-- Where a row lies says nothing of its length. -/
theorem own_nf (A : Option Addr) (n c : Nat) : (Value.slice A n c).ownBlock = A.map (fun a => a.block) := by cases A <;> rfl
end Go.Proofs.YtelibndkkokadaaGreat.HandV
