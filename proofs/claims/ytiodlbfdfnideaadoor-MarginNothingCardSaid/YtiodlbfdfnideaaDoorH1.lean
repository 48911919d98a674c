/- Chapter 10, plain: the document's answers on margins are the program's. -/
import Derived.Test.YtiodlbfdfnideaaDoorG2
import Derived.Test.YtiodlbfdfnideaaDoorG6
import Derived.Test.YtiodlbfdfnideaaDoorG1
import Derived.Test.YtiodlbfdfnideaaDoorG3
import Derived.Test.YtiodlbfdfnideaaDoorG4
import Derived.Test.YtiodlbfdfnideaaDoorG5
namespace Go.Proofs.YtiodlbfdfnideaaDoor.G
open Go.RowKit Go.Proofs.YtiodlbfdfnideaaDoorW.PrintWords Go.Proofs.YtiodlbfdfnideaaDoorW.PrintLast Go.Proofs.YtiodlbfdfnideaaDoorW.PrintMore

theorem wrap_in {x : Int} (h1 : -9223372036854775808 ≤ x) (h2 : x ≤ 9223372036854775807) : wrap64 x = x := by unfold wrap64; omega
theorem shown_ok : gutterlaw10_shown.f 10 = some true := by kernel_rfl
theorem shown_k (k : Nat) (hk : 10 ≤ k) : gutterlaw10_shown.f k = some true := at_rounds (fun k => gutterlaw10_shown.mono k) hk shown_ok
theorem ite_and (c : Prop) [Decidable c] (a : Bool) : (if c then some a else some false) = some (decide c && a) := by by_cases h : c <;> simp [h]
theorem ref_is (a : Int) : gutterref10_is.f a = some (marB a) := by
  unfold gutterref10_is.f marB
  simp only [ite_and, ge_iff_le]

theorem drop_rd (l : List Int) (i : Nat) (h : i < l.length) : l.drop i = rd l i :: l.drop (i + 1) := by
  rw [List.drop_eq_getElem_cons h]
  simp [rd, h]
/-- What some margins collapse to, from some on. -/
theorem collapse_l0 (l : List Int) (hl : l.length ≤ 1000) (j : Nat) : ∀ (k i : Nat) (u d : Int), i ≤ l.length → l.length - i = j → j < k →
    gutterref10_collapse.l0 k l u d i = some (wrap64 (((l.drop i).foldl colS (u, d)).1 + ((l.drop i).foldl colS (u, d)).2)) := by
  induction j with
  | zero =>
    intro k i u d hi hj hk
    obtain ⟨k, rfl⟩ : ∃ m, k = m + 1 := ⟨k - 1, by omega⟩
    simp only [gutterref10_collapse.l0]
    rw [if_neg (by omega), List.drop_of_length_le (by omega)]
    rfl
  | succ j ih =>
    intro k i u d hi hj hk
    obtain ⟨k, rfl⟩ : ∃ m, k = m + 1 := ⟨k - 1, by omega⟩
    have hw : wrap64 ((i : Int) + 1) = ((i + 1 : Nat) : Int) := by rw [wrap_in (by omega) (by omega)]; omega
    simp only [gutterref10_collapse.l0]
    rw [if_pos (by omega), if_pos (by omega), hw, ih k (i + 1) _ _ (by omega) (by omega) (by omega), drop_rd l i (by omega)]
    rfl
theorem ref_collapse (l : List Int) (hl : l.length ≤ 1000) (k : Nat) (hk : l.length < k) : gutterref10_collapse.f k l = some (wrap64 ((colL l).1 + (colL l).2)) :=
  collapse_l0 l hl l.length k 0 0 0 (by omega) (by omega) hk
theorem ref_collapse_in (l : List Int) (hl : l.length ≤ 1000) (k : Nat) (hk : l.length < k) (h : l.all marB = true) : gutterref10_collapse.f k l = some ((colL l).1 + (colL l).2) := by
  have := colL_in l h
  rw [ref_collapse l hl k hk, wrap_in (by omega) (by omega)]
theorem Collapse_l0 (l : List Int) (hl : l.length ≤ 1000) (j : Nat) : ∀ (k i : Nat), i ≤ l.length → l.length - i = j → l.length + j + 1 < k →
    gutterref10_Collapse.l0 k l i = some (if (l.drop i).all marB then (wrap64 ((colL l).1 + (colL l).2), 0) else (0, 100)) := by
  induction j with
  | zero =>
    intro k i hi hj hk
    obtain ⟨k, rfl⟩ : ∃ m, k = m + 1 := ⟨k - 1, by omega⟩
    simp only [gutterref10_Collapse.l0]
    rw [if_neg (by omega), List.drop_of_length_le (by omega), ref_collapse l hl k (by omega)]
    rfl
  | succ j ih =>
    intro k i hi hj hk
    obtain ⟨k, rfl⟩ : ∃ m, k = m + 1 := ⟨k - 1, by omega⟩
    have hw : wrap64 ((i : Int) + 1) = ((i + 1 : Nat) : Int) := by rw [wrap_in (by omega) (by omega)]; omega
    simp only [gutterref10_Collapse.l0]
    rw [if_pos (by omega), if_pos (by omega), hw, ref_is, Option.bind_some, drop_rd l i (by omega), List.all_cons]
    by_cases h : marB (rd l i) = true
    · rw [if_pos h, h, ih k (i + 1) (by omega) (by omega) (by omega)]
      simp
    · have h' := Bool.eq_false_iff.mpr h
      rw [if_neg h, h']
      simp
theorem ref_Collapse (l : List Int) (hl : l.length ≤ 1000) (k : Nat) (hk : 2 * l.length + 1 < k) : gutterref10_Collapse.f k l = margin_Collapse.f l := by
  unfold gutterref10_Collapse.f margin_Collapse.f
  rw [if_pos hl]
  refine (Collapse_l0 l hl l.length k 0 (by omega) (by omega) (by omega)).trans ?_
  rw [List.drop_zero]
  by_cases h : l.all marB = true
  · have := colL_in l h
    rw [if_pos h, if_pos h, wrap_in (by omega) (by omega)]
  · rw [if_neg h, if_neg h]

theorem MarginCollapses : gutterlaw10_MarginCollapses.Pure := by
  intro l0 _ _ _
  refine ⟨2000, ?_⟩
  unfold gutterlaw10_MarginCollapses.f
  have hl : (l0.take 100).length ≤ 100 := by simp; omega
  rw [shown_k 2000 (by omega), Option.bind_some, Option.bind_some]
  generalize l0.take 100 = l at hl ⊢
  rw [ref_Collapse l (by omega) 2000 (by omega)]
  unfold margin_Collapse.f
  rw [if_pos (by omega), Option.bind_some, Option.bind_some, if_pos rfl, if_pos rfl]
  simp
end Go.Proofs.YtiodlbfdfnideaaDoor.G
