/- Chapter 18, plainly: what is shown; a number that is no greater than its kind. Written by mkH1.py. -/
import Derived.Test.YtkmddhljfjjglaaDoorG4
namespace Go.Proofs.YtkmddhljfjjglaaDoor.G
open Go.RowKit Go.Proofs.YtkmddhljfjjglaaDoorW.PrintWords Go.Proofs.YtkmddhljfjjglaaDoorW.PrintLast Go.Proofs.YtkmddhljfjjglaaDoorW.PrintMore

set_option maxRecDepth 100000 in
theorem shown5 : gutterlaw18_shown.f 5 = some true := by kernel_rfl
theorem shownK (d : Nat) : gutterlaw18_shown.f (5 + d) = some true := by
  induction d with
  | zero => exact shown5
  | succ d ih => exact gutterlaw18_shown.mono _ _ ih
theorem shown_ge {k : Nat} (h : 5 ≤ k) : gutterlaw18_shown.f k = some true := by
  obtain ⟨d, rfl⟩ : ∃ d, k = 5 + d := ⟨k - 5, by omega⟩
  exact shownK d
theorem i64w {x : Int} (h1 : -9223372036854775808 ≤ x) (h2 : x ≤ 9223372036854775807) : wrap64 x = x := by unfold wrap64; omega
end Go.Proofs.YtkmddhljfjjglaaDoor.G
