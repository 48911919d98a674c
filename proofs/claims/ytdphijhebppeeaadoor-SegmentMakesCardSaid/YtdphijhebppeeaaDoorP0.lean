/- Functions of the law and of what it calls as plain Lean functions, and that the calls come to their answers: written by fprint.py. -/
import Derived.Test.YtdphijhebppeeaaDoorProg
import Derived.Below
import Derived.Deep.Draws
import Derived.Deep.AppendLies
import Derived.Maps.AppendAt
import Derived.OwnWalk
import Derived.Laws.BytesArg
import Derived.Laws.MakeOwn
import Derived.Laws.OwnMore
import Derived.Deep.OwnRows
import Derived.Tactics
import Derived.Lib.ConvBytes
import Derived.Laws.Slices
import Derived.WalkKit
import Derived.KernelRfl
import Derived.RowKit3
import Derived.Deep.LoopGhost
import Derived.Deep.QuietTactic
import Derived.BigQuiet
import Derived.WideLaws
import Derived.Deep.DeepCutAuto
import Derived.Deep.CutBlock
import Derived.Deep.RegionHeld3
import Derived.Laws.Rows
import Derived.Lib.AppendStr
import Derived.ArgAppend
import Derived.Laws.IdiomCopy
import Derived.OrdersHeld
import Derived.Laws.BitsLemmas
import Derived.RowKit
import Derived.Test.YtdphijhebppeeaaDoorWWords
import Derived.Test.YtdphijhebppeeaaDoorWLast
import Derived.Test.YtdphijhebppeeaaDoorWTab
import Derived.Test.YtdphijhebppeeaaDoorWFour
import Derived.Test.YtdphijhebppeeaaDoorWQPut
import Derived.Test.YtdphijhebppeeaaDoorWApart
import Derived.Test.YtdphijhebppeeaaDoorWArr
import Derived.Test.YtdphijhebppeeaaDoorWZeros
import Derived.Test.YtdphijhebppeeaaDoorWFoot
import Derived.Test.YtdphijhebppeeaaDoorWKept
import Derived.Test.YtdphijhebppeeaaDoorWShare
import Derived.Test.YtdphijhebppeeaaDoorWN
import Derived.Test.YtdphijhebppeeaaDoorWFootNe
import Derived.Test.YtdphijhebppeeaaDoorWAt
import Derived.Test.YtdphijhebppeeaaDoorWEqStruct
import Derived.Test.YtdphijhebppeeaaDoorWRepsOne
import Derived.Test.YtdphijhebppeeaaDoorWInv
import Derived.Test.YtdphijhebppeeaaDoorWInvWords
import Derived.Test.YtdphijhebppeeaaDoorWGuard
import Derived.Test.YtdphijhebppeeaaDoorWNEv
import Derived.Test.YtdphijhebppeeaaDoorWMore
namespace Go.Proofs.YtdphijhebppeeaaDoor.P
open Go.RowKit Go.Proofs.YtdphijhebppeeaaDoorW.PrintWords Go.Proofs.YtdphijhebppeeaaDoorW.PrintLast Go.Proofs.YtdphijhebppeeaaDoorW.PrintMore
attribute [local go_sem] max2_int min2_int max_two min_two max_three min_three max_four min_four   -- for this text's walks alone
set_option linter.unusedVariables false
set_option linter.unusedSimpArgs false



def errW : Option Int → Value
  | none => .nilIface
  | some c => .iface 0 (.int .i64 c)
theorem errW_none : errW none = .nilIface := rfl
theorem errW_some (c : Int) : errW (some c) = .iface 0 (.int .i64 c) := rfl

theorem info2 : (Tryd.prog.info? 2).map (fun i => (i.zero, i.size, i.bytes)) = some (some (.int .i64 0), 1, 8) := by kernel_rfl
-- the values' own types

end Go.Proofs.YtdphijhebppeeaaDoor.P
