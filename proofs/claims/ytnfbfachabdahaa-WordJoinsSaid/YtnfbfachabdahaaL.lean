/- What every row of this seat wants: no knob, the types as they lie; of the world: nothing. -/
import Derived.Test.YtnfbfachabdahaaF1
import Derived.JoinedOf
import Derived.RowKit
import Derived.ProofKit
namespace Go.Proofs.Ytnfbfachabdahaa.L
open Go.ChangeShapes Go.WideShapes Go.RowKit

theorem own : ownKnob Try.prog.godebug = none := by kernel_rfl
theorem laidOut : laidOutB Try.prog = true := by kernel_rfl
theorem gok (W : World) : G.GOK W := trivial
end Go.Proofs.Ytnfbfachabdahaa.L
