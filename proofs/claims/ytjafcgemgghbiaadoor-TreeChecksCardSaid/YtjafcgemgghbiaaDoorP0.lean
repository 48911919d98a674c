/- Functions of the law and of what it calls as plain Lean functions, and that the calls come to their answers: written by fprint.py. -/
import Derived.Test.YtjafcgemgghbiaaDoorProg
import Derived.Below
import Derived.Deep.Draws
import Derived.Deep.AppendLies
import Derived.Maps.AppendAt
import Derived.OwnWalk
import Derived.Laws.BytesArg
import Derived.Laws.MakeOwn
import Derived.Laws.OwnMore
import Derived.Deep.OwnRows
import Derived.Tactics
import Derived.Lib.ConvBytes
import Derived.Laws.Slices
import Derived.WalkKit
import Derived.KernelRfl
import Derived.RowKit3
import Derived.Deep.LoopGhost
import Derived.Deep.QuietTactic
import Derived.BigQuiet
import Derived.WideLaws
import Derived.Deep.DeepCutAuto
import Derived.Deep.CutBlock
import Derived.Deep.RegionHeld3
import Derived.Laws.Rows
import Derived.Lib.AppendStr
import Derived.ArgAppend
import Derived.Laws.IdiomCopy
import Derived.OrdersHeld
import Derived.Laws.BitsLemmas
import Derived.RowKit
import Derived.Test.YtjafcgemgghbiaaDoorWWords
import Derived.Test.YtjafcgemgghbiaaDoorWLast
import Derived.Test.YtjafcgemgghbiaaDoorWTab
import Derived.Test.YtjafcgemgghbiaaDoorWFour
import Derived.Test.YtjafcgemgghbiaaDoorWQPut
import Derived.Test.YtjafcgemgghbiaaDoorWApart
import Derived.Test.YtjafcgemgghbiaaDoorWArr
import Derived.Test.YtjafcgemgghbiaaDoorWZeros
import Derived.Test.YtjafcgemgghbiaaDoorWFoot
import Derived.Test.YtjafcgemgghbiaaDoorWKept
import Derived.Test.YtjafcgemgghbiaaDoorWShare
import Derived.Test.YtjafcgemgghbiaaDoorWN
import Derived.Test.YtjafcgemgghbiaaDoorWFootNe
import Derived.Test.YtjafcgemgghbiaaDoorWAt
import Derived.Test.YtjafcgemgghbiaaDoorWEqStruct
import Derived.Test.YtjafcgemgghbiaaDoorWRepsOne
import Derived.Test.YtjafcgemgghbiaaDoorWInv
import Derived.Test.YtjafcgemgghbiaaDoorWInvWords
import Derived.Test.YtjafcgemgghbiaaDoorWGuard
import Derived.Test.YtjafcgemgghbiaaDoorWNEv
import Derived.Test.YtjafcgemgghbiaaDoorWMore
namespace Go.Proofs.YtjafcgemgghbiaaDoor.P
open Go.RowKit Go.Proofs.YtjafcgemgghbiaaDoorW.PrintWords Go.Proofs.YtjafcgemgghbiaaDoorW.PrintLast Go.Proofs.YtjafcgemgghbiaaDoorW.PrintMore
attribute [local go_sem] max2_int min2_int max_two min_two max_three min_three max_four min_four   -- for this text's walks alone
set_option linter.unusedVariables false
set_option linter.unusedSimpArgs false



def errW : Option Int → Value
  | none => .nilIface
  | some c => .iface 0 (.int .i64 c)
theorem errW_none : errW none = .nilIface := rfl
theorem errW_some (c : Int) : errW (some c) = .iface 0 (.int .i64 c) := rfl

theorem info2 : (Tryd.prog.info? 2).map (fun i => (i.zero, i.size, i.bytes)) = some (some (.int .i64 0), 1, 8) := by kernel_rfl
-- the values' own types

end Go.Proofs.YtjafcgemgghbiaaDoor.P
