/- What the listed variables give a walk, and a world that meets them. Written by mkL.py. -/
import Derived.Test.YtkmddhljfjjglaaDoorRows
import Derived.Test.YtkmddhljfjjglaaDoorF1
import Derived.ChangeSame
import Derived.ChangeVars
import Derived.JoinedOf
import Derived.RowKit
import Derived.LaidLaws
import Derived.ProofKit
import Derived.Stop.ErrReads
import Derived.Stop.LaidErr
namespace Go.Proofs.YtkmddhljfjjglaaDoor.L
open Go.ChangeShapes Go.WideShapes Go.RowKit

theorem own : ownKnob Tryd.prog.godebug = none := by kernel_rfl
theorem laidOut : laidOutB Tryd.prog = true := by kernel_rfl
theorem star : "*" ++ "errors.errorString" = "*errors.errorString" := by decide
theorem rowE (u : TypeId) (h : Tryd.prog.typeName? 3 u = some "*errors.errorString") : u = 136 :=
  typeName_ptr_named (nm := "errors.errorString") (by rw [star]; kernel_rfl) (by kernel_rfl) (by decide) u (by rw [star]; exact h)
theorem g0 : Tryd.prog.globalNamed "gutter/paint.errPaint" = some 0 := by kernel_rfl
def laidX (w : World) : Prop := laidMet Tryd.prog [("math/bits.deBruijn32tab", Rows.laid_math_bits_deBruijn32tab), ("math/bits.deBruijn64tab", Rows.laid_math_bits_deBruijn64tab), ("internal/strconv.uint64pow10", Rows.laid_internal_strconv_uint64pow10), ("gutter/paint.errPaint", Rows.laid_gutter_paint_errPaint)] w
theorem hX {w w' : World} (hh : w.heap = w'.heap) (h : laidX w) : laidX w' := laidMet.of_heap hh h
theorem tabEq : (Rows.laid_internal_strconv_uint64pow10 : DataW Unit) = Lib.tabData .u64 Lib.pow10Tab := rfl
theorem gok_of_laid {W : World} (h : laidX W) : G.GOK W := by
  have h2 := h.tail.tail
  rw [tabEq] at h2
  refine ⟨?_, Lib.tabIs_of_head G.tabN (by kernel_rfl) Tryd.underlying128 Tryd.underlying110 (by kernel_rfl) (by kernel_rfl) h2⟩
  obtain ⟨a, s, hv, _⟩ := laid_sentinel h2.tail g0 (by kernel_rfl) Tryd.underlying57 rowE Tryd.underlying136 Tryd.underlying159 rfl rfl Tryd.underlying9 (by kernel_rfl) (by kernel_rfl)
  exact ⟨a, by simpa using World.var?_cell g0 hv 0⟩

abbrev text0 : ByteArray := { data := #[110, 111, 116, 32, 100, 114, 97, 119, 110] }
noncomputable def low : Nat := (World.holding Tryd.prog default ⟨#[], #[], []⟩).heap.size
def tabs (k : IntKind) (l : List Int) : Array Value := (l.map (Value.int k)).toArray
def tab32 : List Int := [0, 1, 28, 2, 29, 14, 24, 3, 30, 22, 20, 15, 25, 17, 4, 8, 31, 27, 13, 23, 21, 19, 16, 7, 26, 12, 18, 6, 11, 5, 10, 9]
def tab64 : List Int := [0, 1, 56, 2, 57, 49, 28, 3, 61, 58, 42, 50, 38, 29, 17, 4, 62, 47, 59, 36, 45, 43, 51, 22, 53, 39, 33, 30, 24, 18, 12, 5, 63, 55, 48, 27, 60, 41, 37, 16, 46, 35, 44, 21, 52, 32, 23, 11, 54, 26, 40, 15, 34, 20, 31, 10, 25, 14, 19, 9, 13, 8, 7, 6]
noncomputable def laidWorld (os : Os) : World :=
  let w0 := World.holding Tryd.prog os ⟨#[.cells #[.string text0] 159], #[], []⟩
  { w0 with heap := (((w0.heap.modify 0 fun
      | .cells _ t frozen => .cells #[.iface 136 (.pointer (some ⟨low, 0, none⟩))] t frozen
      | o => o).modify 1 fun
      | .cells _ t frozen => .cells (tabs .u64 Lib.pow10Tab) t frozen
      | o => o).modify 2 fun
      | .cells _ t frozen => .cells (tabs .u8 tab32) t frozen
      | o => o).modify 3 fun
      | .cells _ t frozen => .cells (tabs .u8 tab64) t frozen
      | o => o }
theorem laidWorld_met (os : Os) (args : Array Value) : laidX ((laidWorld os).forCall (fun _ _ => 0) ⟨#[], args, []⟩).memory :=
  laidMet_of_run' 8 (by kernel_rfl) (by kernel_rfl)
end Go.Proofs.YtkmddhljfjjglaaDoor.L
