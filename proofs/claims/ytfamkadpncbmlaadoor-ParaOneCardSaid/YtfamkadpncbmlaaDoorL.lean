/- What the listed variable gives a walk, and a world that meets it. -/
import Derived.Test.YtfamkadpncbmlaaDoorRows
import Derived.Test.YtfamkadpncbmlaaDoorF1
import Derived.ChangeSame
import Derived.ChangeVars
import Derived.JoinedOf
import Derived.RowKit
import Derived.LaidLaws
import Derived.ProofKit
import Derived.Stop.ErrReads
import Derived.Stop.LaidErr
namespace Go.Proofs.YtfamkadpncbmlaaDoor.L
open Go.ChangeShapes Go.WideShapes Go.RowKit

theorem own : ownKnob Tryd.prog.godebug = none := by kernel_rfl
theorem laidOut : laidOutB Tryd.prog = true := by kernel_rfl
theorem star : "*" ++ "errors.errorString" = "*errors.errorString" := by decide
theorem rowE (u : TypeId) (h : Tryd.prog.typeName? 3 u = some "*errors.errorString") : u = 79 :=
  typeName_ptr_named (nm := "errors.errorString") (by rw [star]; kernel_rfl) (by kernel_rfl) (by decide) u (by rw [star]; exact h)
theorem g0 : Tryd.prog.globalNamed "gutter/para.errPara" = some 0 := by kernel_rfl
def laidX (w : World) : Prop := laidMet Tryd.prog [("gutter/para.errPara", Rows.laid_gutter_para_errPara)] w
theorem hX {w w' : World} (hh : w.heap = w'.heap) (h : laidX w) : laidX w' := laidMet.of_heap hh h
theorem gok_of_laid {W : World} (h : laidX W) : G.GOK W := by
  obtain ⟨a, s, hv, _⟩ := laid_sentinel h g0 (by kernel_rfl) Tryd.underlying45 rowE Tryd.underlying79 Tryd.underlying105 rfl rfl Tryd.underlying9 (by kernel_rfl) (by kernel_rfl)
  exact ⟨a, by simpa using World.var?_cell g0 hv 0⟩

abbrev text : ByteArray := { data := #[110, 111, 32, 112, 97, 114, 97, 103, 114, 97, 112, 104] }
noncomputable def low : Nat := (World.holding Tryd.prog default ⟨#[], #[], []⟩).heap.size
noncomputable def laidWorld (os : Os) : World :=
  let w0 := World.holding Tryd.prog os ⟨#[.cells #[.string text] 105], #[], []⟩
  { w0 with heap := w0.heap.modify 0 fun
      | .cells _ t frozen => .cells #[.iface 79 (.pointer (some ⟨low, 0, none⟩))] t frozen
      | o => o }
theorem laidWorld_met (os : Os) (args : Array Value) : laidX ((laidWorld os).forCall (fun _ _ => 0) ⟨#[], args, []⟩).memory :=
  laidMet_of_run (ps := [.cell 0 0, .cell low 0]) 8 (by kernel_rfl) (by kernel_rfl) (by kernel_rfl)
end Go.Proofs.YtfamkadpncbmlaaDoor.L
