-- Written by wip/tools/gprint.py over the kit's printer.
import Derived.Test.YtapccgkkcgggiaaDoorProg
import Derived.Below
import Derived.Deep.Draws
import Derived.Deep.AppendLies
import Derived.Maps.AppendAt
import Derived.OwnWalk
import Derived.Laws.BytesArg
import Derived.Laws.MakeOwn
import Derived.Laws.OwnMore
import Derived.Deep.OwnRows
import Derived.Tactics
import Derived.Lib.ConvBytes
import Derived.Laws.Slices
import Derived.WalkKit
import Derived.KernelRfl
import Derived.RowKit3
import Derived.Deep.LoopGhost
import Derived.Deep.QuietTactic
import Derived.BigQuiet
import Derived.WideLaws
import Derived.Deep.DeepCutAuto
import Derived.Deep.CutBlock
import Derived.Deep.RegionHeld3
import Derived.Laws.Rows
import Derived.Lib.AppendStr
import Derived.ArgAppend
import Derived.Laws.IdiomCopy
import Derived.OrdersHeld
import Derived.Laws.BitsLemmas
import Derived.RowKit
import Derived.Lib.OthersKept
import Derived.Lib.Hide
import Derived.Test.YtapccgkkcgggiaaDoorHandB
import Derived.Test.YtapccgkkcgggiaaDoorShelf
import Derived.Lib.SmallJoins
import Derived.Lib.RuneBytes
import Derived.Test.YtapccgkkcgggiaaDoorWWords
import Derived.Test.YtapccgkkcgggiaaDoorWLast
import Derived.Test.YtapccgkkcgggiaaDoorWTab
import Derived.Test.YtapccgkkcgggiaaDoorWFour
import Derived.Test.YtapccgkkcgggiaaDoorWQPut
import Derived.Test.YtapccgkkcgggiaaDoorWApart
import Derived.Test.YtapccgkkcgggiaaDoorWArr
import Derived.Test.YtapccgkkcgggiaaDoorWZeros
import Derived.Test.YtapccgkkcgggiaaDoorWFoot
import Derived.Test.YtapccgkkcgggiaaDoorWKept
import Derived.Test.YtapccgkkcgggiaaDoorWShare
import Derived.Test.YtapccgkkcgggiaaDoorWN
import Derived.Test.YtapccgkkcgggiaaDoorWFootNe
import Derived.Test.YtapccgkkcgggiaaDoorWAt
import Derived.Test.YtapccgkkcgggiaaDoorWEqStruct
import Derived.Test.YtapccgkkcgggiaaDoorWRepsOne
import Derived.Test.YtapccgkkcgggiaaDoorWInv
import Derived.Test.YtapccgkkcgggiaaDoorWInvWords
import Derived.Test.YtapccgkkcgggiaaDoorWGuard
import Derived.Test.YtapccgkkcgggiaaDoorWNEv
import Derived.Test.YtapccgkkcgggiaaDoorWMore
namespace Go.Proofs.YtapccgkkcgggiaaDoor.GB
open Go.RowKit Go.Proofs.YtapccgkkcgggiaaDoorW.PrintWords Go.Proofs.YtapccgkkcgggiaaDoorW.PrintLast Go.Proofs.YtapccgkkcgggiaaDoor.HandB Go.Proofs.YtapccgkkcgggiaaDoorW.PrintMore
attribute [local go_sem] max2_int min2_int max_two min_two max_three min_three max_four min_four   -- for this text's walks alone
set_option linter.unusedVariables false
set_option linter.unusedSimpArgs false



def errW : Option Int → Value
  | none => .nilIface
  | some c => .iface 0 (.int .i64 c)
theorem errW_none : errW none = .nilIface := rfl
theorem errW_some (c : Int) : errW (some c) = .iface 0 (.int .i64 c) := rfl

theorem info5 : (Tryd.prog.info? 5).map (fun i => (i.zero, i.size, i.bytes)) = some (some (.int .u8 0), 1, 1) := by kernel_rfl
theorem info21 : (Tryd.prog.info? 21).map (fun i => (i.zero, i.size, i.bytes)) = some (some (.int .i32 0), 1, 4) := by kernel_rfl
-- the values' own types

end Go.Proofs.YtapccgkkcgggiaaDoor.GB
