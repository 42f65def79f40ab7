import Derived.Test.YtnjlggpidkbjcaaWWords
import Derived.Deep.Draws
/-! No library table is told of: the seat's rows lay none. -/
namespace Go.Proofs.Ytnjlggpidkbjcaa.HandV
open Go.RowKit Go.Proofs.YtnjlggpidkbjcaaW.PrintWords
def Tb (_ : World) : Prop := True
theorem Tb.below {w w' : World} (_ : Tb w) (_ : Below w.heap.size w w') : Tb w' := trivial
theorem Tb.drawn {w w' : World} (_ : Tb w) (_ : Drawn0 w w') : Tb w' := trivial
end Go.Proofs.Ytnjlggpidkbjcaa.HandV
