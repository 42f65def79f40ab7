-- Written by wip/tools/gprint.py over the kit's printer.
import Derived.Test.YtlhpkapcehjolaaDoorProg
import Derived.Below
import Derived.Deep.Draws
import Derived.Deep.AppendLies
import Derived.Maps.AppendAt
import Derived.OwnWalk
import Derived.Laws.BytesArg
import Derived.Laws.MakeOwn
import Derived.Laws.OwnMore
import Derived.Deep.OwnRows
import Derived.Tactics
import Derived.Lib.ConvBytes
import Derived.Laws.Slices
import Derived.WalkKit
import Derived.KernelRfl
import Derived.RowKit3
import Derived.Deep.LoopGhost
import Derived.Deep.QuietTactic
import Derived.BigQuiet
import Derived.WideLaws
import Derived.Deep.DeepCutAuto
import Derived.Deep.CutBlock
import Derived.Deep.RegionHeld3
import Derived.Laws.Rows
import Derived.Lib.AppendStr
import Derived.ArgAppend
import Derived.Laws.IdiomCopy
import Derived.OrdersHeld
import Derived.Laws.BitsLemmas
import Derived.RowKit
import Derived.Lib.OthersKept
import Derived.Lib.Hide
import Derived.Lib.Strings
import Derived.Test.YtlhpkapcehjolaaDoorHand
import Derived.Test.YtlhpkapcehjolaaDoorWWords
import Derived.Test.YtlhpkapcehjolaaDoorWLast
import Derived.Test.YtlhpkapcehjolaaDoorWTab
import Derived.Test.YtlhpkapcehjolaaDoorWFour
import Derived.Test.YtlhpkapcehjolaaDoorWQPut
import Derived.Test.YtlhpkapcehjolaaDoorWApart
import Derived.Test.YtlhpkapcehjolaaDoorWArr
import Derived.Test.YtlhpkapcehjolaaDoorWZeros
import Derived.Test.YtlhpkapcehjolaaDoorWFoot
import Derived.Test.YtlhpkapcehjolaaDoorWKept
import Derived.Test.YtlhpkapcehjolaaDoorWShare
import Derived.Test.YtlhpkapcehjolaaDoorWN
import Derived.Test.YtlhpkapcehjolaaDoorWFootNe
import Derived.Test.YtlhpkapcehjolaaDoorWAt
import Derived.Test.YtlhpkapcehjolaaDoorWEqStruct
import Derived.Test.YtlhpkapcehjolaaDoorWRepsOne
import Derived.Test.YtlhpkapcehjolaaDoorWInv
import Derived.Test.YtlhpkapcehjolaaDoorWInvWords
import Derived.Test.YtlhpkapcehjolaaDoorWGuard
import Derived.Test.YtlhpkapcehjolaaDoorWNEv
import Derived.Test.YtlhpkapcehjolaaDoorWMore
namespace Go.Proofs.YtlhpkapcehjolaaDoor.GNumT
open Go.RowKit Go.Proofs.YtlhpkapcehjolaaDoorW.PrintWords Go.Proofs.YtlhpkapcehjolaaDoorW.PrintLast Go.Proofs.YtlhpkapcehjolaaDoor.Hand Go.Proofs.YtlhpkapcehjolaaDoorW.PrintMore
attribute [local go_sem] max2_int min2_int max_two min_two max_three min_three max_four min_four   -- for this text's walks alone
set_option linter.unusedVariables false
set_option linter.unusedSimpArgs false



def errW : Option Int → Value
  | none => .nilIface
  | some c => .iface 0 (.int .i64 c)
theorem errW_none : errW none = .nilIface := rfl
theorem errW_some (c : Int) : errW (some c) = .iface 0 (.int .i64 c) := rfl

theorem info5 : (Tryd.prog.info? 5).map (fun i => (i.zero, i.size, i.bytes)) = some (some (.int .u8 0), 1, 1) := by kernel_rfl
-- the values' own types

end Go.Proofs.YtlhpkapcehjolaaDoor.GNumT
