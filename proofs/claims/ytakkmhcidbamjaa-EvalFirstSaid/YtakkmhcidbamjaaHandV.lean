import Derived.Test.YtakkmhcidbamjaaWWords
import Derived.Deep.Draws
/-! No library table is told of: the seat's rows lay none. -/
namespace Go.Proofs.Ytakkmhcidbamjaa.HandV
open Go.RowKit Go.Proofs.YtakkmhcidbamjaaW.PrintWords
def Tb (_ : World) : Prop := True
theorem Tb.below {w w' : World} (_ : Tb w) (_ : Below w.heap.size w w') : Tb w' := trivial
theorem Tb.drawn {w w' : World} (_ : Tb w) (_ : Drawn0 w w') : Tb w' := trivial
end Go.Proofs.Ytakkmhcidbamjaa.HandV
