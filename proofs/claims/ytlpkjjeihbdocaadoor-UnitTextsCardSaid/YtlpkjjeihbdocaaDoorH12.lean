/- Chapter 1, plain: which numbers are lengths, by the document. -/
import Derived.Test.YtlpkjjeihbdocaaDoorH2
import Derived.Test.YtlpkjjeihbdocaaDoorG12
namespace Go.Proofs.YtlpkjjeihbdocaaDoor.G
open Go.RowKit Go.Proofs.YtlpkjjeihbdocaaDoorW.PrintWords Go.Proofs.YtlpkjjeihbdocaaDoorW.PrintLast Go.Proofs.YtlpkjjeihbdocaaDoorW.PrintMore

theorem ref_right (a : Int) : gutterref01_Right.f a = some (lenB a) := by
  unfold gutterref01_Right.f lenB
  by_cases h : -1073741824 ≤ a
  · rw [if_pos h]; simp [h]
  · rw [if_neg h]; simp [h]
theorem ref_checked (a : Int) : gutterref01_checked.f a = some (resZ a) := by
  unfold gutterref01_checked.f resZ
  rw [ref_right, Option.bind_some]
  split <;> rfl
end Go.Proofs.YtlpkjjeihbdocaaDoor.G
