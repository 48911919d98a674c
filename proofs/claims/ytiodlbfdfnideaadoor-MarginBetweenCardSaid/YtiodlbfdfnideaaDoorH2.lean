/- Chapter 10, plain: MarginBetween. -/
import Derived.Test.YtiodlbfdfnideaaDoorH1
import Derived.Test.YtiodlbfdfnideaaDoorG18
namespace Go.Proofs.YtiodlbfdfnideaaDoor.G
open Go.RowKit Go.Proofs.YtiodlbfdfnideaaDoorW.PrintWords Go.Proofs.YtiodlbfdfnideaaDoorW.PrintLast Go.Proofs.YtiodlbfdfnideaaDoorW.PrintMore

theorem between_l0 (l : List Int) (hl : l.length ≤ 1000) (j : Nat) : ∀ (k i : Nat) (u d n : Int), i ≤ l.length → l.length - i = j → j < k → 0 ≤ ((l.drop i).foldl colS (u, d)).1 → ((l.drop i).foldl colS (u, d)).2 ≤ 0 →
    n = ((l.drop i).foldl colS (u, d)).1 + ((l.drop i).foldl colS (u, d)).2 → gutterlaw10_MarginBetween.l0 k l true n u d i = some true := by
  induction j with
  | zero =>
    intro k i u d n hi hj hk h1 h2 h3
    obtain ⟨k, rfl⟩ : ∃ m, k = m + 1 := ⟨k - 1, by omega⟩
    rw [List.drop_of_length_le (by omega)] at h1 h2 h3
    rw [List.foldl_nil] at h1 h2 h3
    dsimp only at h1 h2 h3
    simp only [gutterlaw10_MarginBetween.l0]
    rw [if_neg (by omega), if_pos trivial, if_pos (by omega), if_pos (by omega)]
    by_cases c1 : d < 0
    · rw [if_pos c1]
      by_cases c2 : u > 0
      · rw [if_pos c2]
      · rw [if_neg c2]; simp; omega
    · rw [if_neg c1, if_pos (by omega)]
      by_cases c2 : u > 0
      · rw [if_pos c2]
      · rw [if_neg c2]; simp; omega
  | succ j ih =>
    intro k i u d n hi hj hk h1 h2 h3
    obtain ⟨k, rfl⟩ : ∃ m, k = m + 1 := ⟨k - 1, by omega⟩
    have hw : wrap64 ((i : Int) + 1) = ((i + 1 : Nat) : Int) := by rw [wrap_in (by omega) (by omega)]; omega
    rw [drop_rd l i (by omega), List.foldl_cons] at h1 h2 h3
    have := ih k (i + 1) (mx u (rd l i)) (mn d (rd l i)) n (by omega) (by omega) (by omega) h1 h2 h3
    simp only [gutterlaw10_MarginBetween.l0]
    rw [if_pos (by omega), if_pos (by omega), hw]
    exact this

theorem MarginBetween : gutterlaw10_MarginBetween.Pure := by
  intro l0 _ _ _
  refine ⟨2000, ?_⟩
  unfold gutterlaw10_MarginBetween.f
  have hl : (l0.take 100).length ≤ 100 := by simp; omega
  rw [shown_k 2000 (by omega), Option.bind_some, Option.bind_some]
  generalize l0.take 100 = l at hl ⊢
  unfold margin_Collapse.f
  rw [if_pos (by omega), Option.bind_some]
  by_cases h : l.all marB = true
  · have hc := colL_in l h
    rw [if_pos h]
    dsimp only
    rw [if_pos rfl]
    exact between_l0 l (by omega) l.length 2000 0 0 0 _ (by omega) (by omega) (by omega) hc.1.1 hc.2.2 rfl
  · rw [if_neg h]
    rfl
end Go.Proofs.YtiodlbfdfnideaaDoor.G
