/- Chapter 7, plain: WordTexts. -/
import Derived.Test.YtnfbfachabdahaaH1
import Derived.Test.YtnfbfachabdahaaG10
namespace Go.Proofs.Ytnfbfachabdahaa.G
open Go.RowKit Go.Shelf Go.Proofs.YtnfbfachabdahaaW.PrintWords Go.Proofs.YtnfbfachabdahaaW.PrintLast Go.Proofs.YtnfbfachabdahaaW.PrintMore

def wordsR (a : ByteArray) : List S34 × Int := if a.size ≤ 400 then (headL (wordsL a.data.toList), 0) else ([], 70)
theorem words_is (a : ByteArray) (h : a.size ≤ 1000000) : word_Words.f a = some (wordsR a) := by
  unfold word_Words.f wordsR
  by_cases h4 : a.size ≤ 400
  · rw [if_pos h4, if_pos h4]
  · rw [if_neg h4, if_neg h4, if_pos h]
theorem wordsR_len (a : ByteArray) : (wordsR a).1.length ≤ 400 := by
  unfold wordsR
  have hz : a.data.toList.length = a.size := Array.length_toList
  split
  · rw [headL_len]
    exact Nat.le_trans (wordsL_len _) (by omega)
  · simp
theorem width_is (a : ByteArray) (h : a.size ≤ 1000000) : word_Width.f a = some (widthL a.data.toList) := by unfold word_Width.f; rw [if_pos h]
theorem refWidth_is (a : ByteArray) (h : a.size ≤ 1000000) : gutterref07_Width.f a = some (widthL a.data.toList) := by unfold gutterref07_Width.f; rw [if_pos h]
theorem u8_in {a : Int} (h : (Lit.int .u8 a).wf = true) : 0 ≤ a ∧ a < 256 := by
  simp [Lit.wf, IntKind.min, IntKind.max, IntKind.signed, IntKind.bits] at h
  omega
theorem cutL_in (a : ByteArray) : (cutL a).size ≤ 1000000 := Nat.le_trans (cutL_size a) (by decide)
theorem WordTexts : gutterlaw07_WordTexts.Pure := by
  intro a0 a1 h0 _
  obtain ⟨k, hk⟩ : ∃ k, 2000 ≤ k := ⟨2000, Nat.le_refl _⟩
  refine ⟨k, ?_⟩
  have h8 := u8_in h0
  have hW : word_Wide.f a0 = some (wideN a0.toNat) := by unfold word_Wide.f; rw [if_pos h8]
  have hR : gutterref07_Wide.f a0 = some (wideN a0.toNat) := by unfold gutterref07_Wide.f; rw [if_pos h8]
  have hl := wordsR_len (cutL a1)
  unfold gutterlaw07_WordTexts.f
  rw [shown_k k (by omega), Option.bind_some, cut_is, Option.bind_some, words_is _ (cutL_in a1), Option.bind_some, Option.bind_some, refWords_is _ (cutL_in a1) k (by omega), words_is _ (cutL_in a1), Option.bind_some, if_pos rfl, hW, Option.bind_some, hR, Option.bind_some, if_pos rfl,
    Option.bind_some, width_is _ (cutL_in a1), Option.bind_some, Option.bind_some, refWidth_is _ (cutL_in a1), Option.bind_some, if_pos rfl, refSame_is _ _ (by omega) k (by omega), Option.bind_some, sameW_refl, if_pos rfl, beq_self_eq_true]
end Go.Proofs.Ytnfbfachabdahaa.G
