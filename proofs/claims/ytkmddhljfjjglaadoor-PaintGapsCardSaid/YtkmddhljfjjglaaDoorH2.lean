/- Chapter 18, plainly: PaintGaps. Written by mkH2.py. -/
import Derived.Test.YtkmddhljfjjglaaDoorH1
import Derived.Test.YtkmddhljfjjglaaDoorG9
namespace Go.Proofs.YtkmddhljfjjglaaDoor.G
open Go.RowKit Go.Proofs.YtkmddhljfjjglaaDoorW.PrintWords Go.Proofs.YtkmddhljfjjglaaDoorW.PrintLast Go.Proofs.YtkmddhljfjjglaaDoorW.PrintMore

theorem rd_rules (n i : Nat) (h : i < n) (w gap rule y hh : Int) : rd_T30 (rulesL n w gap rule y hh) i = ruleS w gap rule y hh i := by
  simp [rd_T30, rulesL, h]
theorem gaps_loop (n : Nat) (a1 a2 a3 a4 : Int) (hn : n ≤ 2000) (h1 : 0 ≤ a1 ∧ a1 ≤ 1048576) (h2 : 0 ≤ a2 ∧ a2 ≤ 1048576) (h3 : 0 ≤ a3 ∧ a3 ≤ 1048576) (h23 : a3 ≤ a2) (d : Nat) :
    ∀ (k i : Nat), i ≤ n → n - i = d → d < k → gutterlaw18_PaintGaps.l0 k a1 a2 a3 a4 true (rulesL n a1 a2 a3 0 a4) i = some true := by
  have hlen := rulesL_len n a1 a2 a3 0 a4
  induction d with
  | zero =>
    intro k i hi hd hk
    obtain ⟨k, rfl⟩ : ∃ m, k = m + 1 := ⟨k - 1, by omega⟩
    simp only [gutterlaw18_PaintGaps.l0]
    rw [if_neg (by omega)]
  | succ d ih =>
    intro k i hi hd hk
    obtain ⟨k, rfl⟩ : ∃ m, k = m + 1 := ⟨k - 1, by omega⟩
    have hp : 0 ≤ (i : Int) * (a1 + a2) := Int.mul_nonneg (by omega) (by omega)
    have hq : (i : Int) * (a1 + a2) ≤ 2000 * 2097152 := Int.mul_le_mul (by omega) (by omega) (by omega) (by omega)
    have hs : ((i : Int) + 1) * (a1 + a2) = (i : Int) * (a1 + a2) + (a1 + a2) := by rw [Int.add_mul, Int.one_mul]
    have ei := Aside0.mk (show wrap64 ((i : Int) + 1) = (i : Int) + 1 from i64w (by omega) (by omega))
    have e1 := Aside0.mk (show wrap64 (a1 + a2) = a1 + a2 from i64w (by omega) (by omega))
    simp only [gutterlaw18_PaintGaps.l0]
    rw [rd_rules n i (by omega), ei.out, e1.out, hs]
    simp only [ruleS]
    generalize (i : Int) * (a1 + a2) = p at *
    have e2 := Aside0.mk (show wrap64 p = p from i64w (by omega) (by omega))
    have e3 := Aside0.mk (show wrap64 (p + (a1 + a2)) = p + (a1 + a2) from i64w (by omega) (by omega))
    rw [e2.out, e3.out]
    have e4 : wrap64 (wrap64 (p + a1 + (a2 - a3) / 2 - p) - a1) = (a2 - a3) / 2 := by
      rw [i64w (x := p + a1 + (a2 - a3) / 2 - p) (by omega) (by omega), i64w (by omega) (by omega)]; omega
    have e5 : wrap64 (wrap64 (p + (a1 + a2) - (p + a1 + (a2 - a3) / 2)) - a3) = (a2 - a3) - (a2 - a3) / 2 := by
      rw [i64w (x := p + (a1 + a2) - (p + a1 + (a2 - a3) / 2)) (by omega) (by omega), i64w (by omega) (by omega)]; omega
    rw [e4, e5, if_pos (by omega), if_pos (by omega), if_neg (by omega), if_neg (by omega), if_neg (by rw [i64w (by omega) (by omega)]; omega), if_pos trivial, if_pos trivial, if_pos trivial]
    exact ih k (i + 1) (by omega) (by omega) (by omega)
theorem gaps_nil (k : Nat) (a1 a2 a3 a4 : Int) : gutterlaw18_PaintGaps.l0 (k + 1) a1 a2 a3 a4 true [] 0 = some true := by
  rw [gutterlaw18_PaintGaps.l0, if_neg (by simp)]
theorem PaintGaps : gutterlaw18_PaintGaps.Pure := by
  intro a0 a1 a2 a3 a4 _ _ _ _ _
  refine ⟨2010, ?_⟩
  unfold gutterlaw18_PaintGaps.f
  rw [shown_ge (by omega)]
  unfold paint_Rules.f
  simp only [Option.bind_some]
  by_cases hB : ruleB a0 a1 a2 a3 0 a4 = true
  · rw [if_pos hB]
    dsimp only
    rw [if_pos rfl]
    simp only [ruleB, Bool.and_eq_true, Bool.not_eq_true'] at hB
    have z0 := inZ hB.1
    have z1 := inZ hB.2.1.1
    have z2 := inZ hB.2.1.2.1
    have z3 := inZ hB.2.1.2.2
    show gutterlaw18_PaintGaps.j0 (2009 + 1) _ _ _ _ _ _ _ _ _ = _
    simp only [gutterlaw18_PaintGaps.j0]
    by_cases hlt : a2 < a3
    · rw [if_pos (by simpa using hlt), if_pos trivial, if_pos trivial]
    · rw [if_neg (by simpa using hlt)]
      by_cases h3 : a3 > 0
      · rw [if_pos h3, if_neg (show ¬ a3 = 0 by omega)]
        show gutterlaw18_PaintGaps.j1 (2008 + 1) _ _ _ _ _ _ _ = _
        simp only [gutterlaw18_PaintGaps.j1]
        rw [if_pos (by rw [rulesL_len, i64w (by omega) (by omega)]; unfold mx; split <;> omega)]
        exact gaps_loop (a0.toNat - 1) a1 a2 a3 a4 (by omega) z1 z2 z3 (by omega) (a0.toNat - 1) 2008 0 (by omega) rfl (by omega)
      · rw [if_neg h3, if_pos (show a3 = 0 by omega)]
        show gutterlaw18_PaintGaps.j1 (2008 + 1) _ _ _ _ _ _ _ = _
        simp only [gutterlaw18_PaintGaps.j1]
        rw [if_pos (show (([] : List S30).length : Int) = 0 from rfl)]
        exact gaps_nil 2007 a1 a2 a3 a4
  · rw [if_neg hB]
    dsimp only
    rw [if_neg (by decide)]
    show gutterlaw18_PaintGaps.j0 (2009 + 1) _ _ _ _ _ _ _ _ _ = _
    simp only [gutterlaw18_PaintGaps.j0]
    rw [if_pos trivial, if_pos trivial, if_neg (by decide)]
    rfl
end Go.Proofs.YtkmddhljfjjglaaDoor.G
