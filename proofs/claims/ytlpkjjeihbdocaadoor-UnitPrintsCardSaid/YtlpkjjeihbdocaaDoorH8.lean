/- Chapter 1, plain: lengths and texts are one to one. -/
import Derived.Test.YtlpkjjeihbdocaaDoorH2
import Derived.Test.YtlpkjjeihbdocaaDoorG8
namespace Go.Proofs.YtlpkjjeihbdocaaDoor.G
open Go.RowKit Go.Proofs.YtlpkjjeihbdocaaDoorW.PrintWords Go.Proofs.YtlpkjjeihbdocaaDoorW.PrintLast Go.Proofs.YtlpkjjeihbdocaaDoorW.PrintMore

theorem cut_f (s : ByteArray) (_ : s.size ≤ 140737488351232) : ∃ l : List UInt8, l.length ≤ 50 ∧ gutterlaw01_cut.f s = some (bstr l) := by
  have hm : 0 ≤ mn (s.size : Int) 50 ∧ mn (s.size : Int) 50 ≤ s.size ∧ mn (s.size : Int) 50 ≤ 50 := by unfold mn; split <;> omega
  refine ⟨(s.extract 0 (mn (s.size : Int) 50).toNat).data.toList, ?_, ?_⟩
  · rw [← Lib.size_eq, ByteArray.size_extract]; omega
  · unfold gutterlaw01_cut.f
    rw [if_pos hm.1, if_pos hm.2.1, bstr_back]
theorem print_f (a : Int) : unit_Print.f a = some (bstr (printZ a).1, (printZ a).2) := rfl
theorem bstr_toList (l : List UInt8) : (bstr l).toList = l := by rw [Lib.toList_data, bstr_list]
theorem UnitPrints_j0 (a : Int) (s : ByteArray) (hs : s.size ≤ 140737488351232) : gutterlaw01_UnitPrints.j0 1 a s true (bstr (printZ a).1) (printZ a).2 false = some true := by
  obtain ⟨l, hl, hc⟩ := cut_f s hs
  simp only [gutterlaw01_UnitPrints.j0]
  rw [if_neg (by simp), hc, Option.bind_some, parse_f (by omega), Option.bind_some, print_f, Option.bind_some, if_pos trivial, unit_Right.f, Option.bind_some, Option.bind_some]
  have hg : (parseZ l).2 = 0 → (printZ (parseZ l).1) = (l, 0) := fun h => parse_sound (Prod.ext rfl h)
  cases ha : lenB a
  · rw [printZ_not ha]
    by_cases h : (parseZ l).2 = 0
    · simp [h, hg h, bstr_toList]
    · simp [h, bstr_toList]
  · rw [printZ_len ha]
    by_cases h : (parseZ l).2 = 0
    · simp [h, hg h, bstr_toList]
    · simp [h]
theorem UnitPrints : gutterlaw01_UnitPrints.Pure := by
  intro a s _ hs
  refine ⟨1, ?_⟩
  have hj := UnitPrints_j0 a s hs
  unfold gutterlaw01_UnitPrints.f
  have hlen : (printZ a).1.length ≤ 1000 := by
    cases ha : lenB a
    · rw [printZ_not ha]; simp
    · rw [printZ_len ha]; have := printB_len ha; simp only; omega
  rw [shown_ok, Option.bind_some, print_f, Option.bind_some, parse_f hlen, Option.bind_some]
  cases ha : lenB a
  · rw [printZ_not ha] at hj ⊢
    rw [if_neg (by decide)]
    exact hj
  · rw [printZ_len ha] at hj ⊢
    rw [if_pos rfl, parse_print ha, if_pos rfl]
    simpa using hj
end Go.Proofs.YtlpkjjeihbdocaaDoor.G
