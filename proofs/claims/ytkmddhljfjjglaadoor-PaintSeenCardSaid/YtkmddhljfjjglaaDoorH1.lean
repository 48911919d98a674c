/- Chapter 18, plainly: what is shown; PaintRules. Written by mkH1.py. -/
import Derived.Test.YtkmddhljfjjglaaDoorG4
import Derived.Test.YtkmddhljfjjglaaDoorG7
import Derived.Test.YtkmddhljfjjglaaDoorG8
namespace Go.Proofs.YtkmddhljfjjglaaDoor.G
open Go.RowKit Go.Proofs.YtkmddhljfjjglaaDoorW.PrintWords Go.Proofs.YtkmddhljfjjglaaDoorW.PrintLast Go.Proofs.YtkmddhljfjjglaaDoorW.PrintMore

set_option maxRecDepth 100000 in
theorem shown5 : gutterlaw18_shown.f 5 = some true := by kernel_rfl
theorem shownK (d : Nat) : gutterlaw18_shown.f (5 + d) = some true := by
  induction d with
  | zero => exact shown5
  | succ d ih => exact gutterlaw18_shown.mono _ _ ih
theorem shown_ge {k : Nat} (h : 5 ≤ k) : gutterlaw18_shown.f k = some true := by
  obtain ⟨d, rfl⟩ : ∃ d, k = 5 + d := ⟨k - 5, by omega⟩
  exact shownK d
theorem i64w {x : Int} (h1 : -9223372036854775808 ≤ x) (h2 : x ≤ 9223372036854775807) : wrap64 x = x := by unfold wrap64; omega
theorem rects_loop (l : List S30) (hl : l.length ≤ 100000) (d : Nat) : ∀ (k i : Nat), i ≤ l.length → l.length - i = d → d < k → gutterref11_Rects.l0 k l l i = some true := by
  induction d with
  | zero =>
    intro k i hi hd hk
    obtain ⟨k, rfl⟩ : ∃ m, k = m + 1 := ⟨k - 1, by omega⟩
    rw [gutterref11_Rects.l0, if_neg (by omega)]
  | succ d ih =>
    intro k i hi hd hk
    obtain ⟨k, rfl⟩ : ∃ m, k = m + 1 := ⟨k - 1, by omega⟩
    rw [gutterref11_Rects.l0, if_pos (by omega), if_pos (by omega), if_pos (by omega), if_neg (by simp), i64w (by omega) (by omega)]
    exact ih k (i + 1) (by omega) (by omega) (by omega)
theorem rects_refl (l : List S30) (k : Nat) (hl : l.length ≤ 100000) (hk : l.length < k) : gutterref11_Rects.f k l l = some true := by
  unfold gutterref11_Rects.f
  rw [if_pos rfl]
  exact rects_loop l hl l.length k 0 (by omega) rfl (by omega)
theorem within_eq (lo n hi : Int) : gutterref18_within.f lo n hi = some (decide (lo ≤ n) && decide (n ≤ hi)) := by
  unfold gutterref18_within.f
  by_cases h : n ≥ lo
  · rw [if_pos h, show decide (lo ≤ n) = true from decide_eq_true h]; rfl
  · rw [if_neg h, show decide (lo ≤ n) = false from decide_eq_false h]; rfl
theorem far_eq : gutterref18_far.f = some 1099511627776 := rfl
theorem out_not (most n : Int) : (decide (0 ≤ n) && decide (n ≤ most)) = !outB most n := by
  rw [Bool.eq_iff_iff]
  simp only [outB, Bool.and_eq_true, decide_eq_true_eq, Bool.not_eq_true', Bool.or_eq_false_iff, decide_eq_false_iff_not]
  omega
theorem half_a (a b : Int) (h : a < b) (hb : b - a ≤ 1048576) (h2 : Int.tmod (b - a) 2 ≠ 0) : Int.tdiv (a - b) 2 - 1 = (a - b) / 2 := by
  rw [Int.tmod_eq_emod_of_nonneg (by omega)] at h2
  rw [show a - b = -(b - a) by omega, Int.neg_tdiv, Int.tdiv_eq_ediv_of_nonneg (by omega)]
  omega
theorem half_b (a b : Int) (h : a < b) (hb : b - a ≤ 1048576) (h2 : Int.tmod (b - a) 2 = 0) : Int.tdiv (a - b) 2 = (a - b) / 2 := by
  rw [Int.tmod_eq_emod_of_nonneg (by omega)] at h2
  rw [show a - b = -(b - a) by omega, Int.neg_tdiv, Int.tdiv_eq_ediv_of_nonneg (by omega)]
  omega
theorem rule_loop (n : Nat) (a0 a1 a2 a3 a4 a5 : Int) (h0 : a0 ≤ 2000) (hn : n = a0.toNat - 1) (h1 : 0 ≤ a1 ∧ a1 ≤ 1048576) (h2 : 0 ≤ a2 ∧ a2 ≤ 1048576) (h3 : 0 < a3 ∧ a3 ≤ 1048576) (d : Nat) :
    ∀ (k i : Nat), i ≤ n → n - i = d → d < k → gutterref18_Rules.l0 k a0 a1 a2 a3 a4 a5 ((a2 - a3) / 2) (rulesL i a1 a2 a3 a4 a5) i = some (rulesL n a1 a2 a3 a4 a5, 0) := by
  induction d with
  | zero =>
    intro k i hi hd hk
    obtain ⟨k, rfl⟩ : ∃ m, k = m + 1 := ⟨k - 1, by omega⟩
    obtain rfl : i = n := by omega
    rw [gutterref18_Rules.l0, if_neg (by rw [i64w (by omega) (by omega)]; omega)]
  | succ d ih =>
    intro k i hi hd hk
    obtain ⟨k, rfl⟩ : ∃ m, k = m + 1 := ⟨k - 1, by omega⟩
    have hp : 0 ≤ (i : Int) * (a1 + a2) := Int.mul_nonneg (by omega) (by omega)
    have hq : (i : Int) * (a1 + a2) ≤ 2000 * 2097152 := Int.mul_le_mul (by omega) (by omega) (by omega) (by omega)
    have e : wrap64 (wrap64 (wrap64 ((i : Int) * wrap64 (a1 + a2)) + a1) + (a2 - a3) / 2) = (i : Int) * (a1 + a2) + a1 + (a2 - a3) / 2 := by
      rw [i64w (x := a1 + a2) (by omega) (by omega)]
      generalize (i : Int) * (a1 + a2) = p at *
      rw [i64w (x := p) (by omega) (by omega), i64w (x := p + a1) (by omega) (by omega), i64w (by omega) (by omega)]
    have hlen := rulesL_len i a1 a2 a3 a4 a5
    rw [gutterref18_Rules.l0, if_pos (by rw [i64w (by omega) (by omega)]; omega), if_pos (by omega), if_pos (by omega), e, i64w (x := (i : Int) + 1) (by omega) (by omega)]
    have hs := rulesL_snoc i a1 a2 a3 a4 a5
    rw [ruleS] at hs
    rw [← hs]
    exact ih k (i + 1) (by omega) (by omega) (by omega)
theorem ref_rules (k : Nat) (hk : 2010 ≤ k) (a0 a1 a2 a3 a4 a5 : Int) : gutterref18_Rules.f k a0 a1 a2 a3 a4 a5 = paint_Rules.f a0 a1 a2 a3 a4 a5 := by
  obtain ⟨k, rfl⟩ : ∃ m, k = m + 3 := ⟨k - 3, by omega⟩
  unfold gutterref18_Rules.f paint_Rules.f
  simp only [within_eq, far_eq, Option.bind_some, out_not]
  have hno : gutterref18_Rules.j0 (k + 3) a0 a1 a2 a3 a4 a5 true = some ([], 170) := by simp only [gutterref18_Rules.j0]; rw [if_pos trivial]
  by_cases c0 : outB 2000 a0 = true
  · have hB : ruleB a0 a1 a2 a3 a4 a5 = false := by unfold ruleB; rw [c0]; rfl
    rw [hB, hno]
    simp only [outB, Bool.or_eq_true, decide_eq_true_eq] at c0
    by_cases h : a0 < 0
    · rw [if_pos h]; rfl
    · rw [if_neg h, if_pos (by omega)]; rfl
  have c0 := Bool.eq_false_iff.mpr c0
  have z0 := inZ c0
  rw [if_neg (by omega), if_neg (by omega)]
  by_cases c1 : outB 1048576 a1 = true
  · rw [hno, if_neg (by rw [c1]; simp), show ruleB a0 a1 a2 a3 a4 a5 = false by unfold ruleB; rw [c0, c1]; rfl]; rfl
  have c1 := Bool.eq_false_iff.mpr c1
  rw [if_pos (by rw [c1]; rfl)]
  by_cases c2 : outB 1048576 a2 = true
  · rw [hno, if_neg (by rw [c2]; simp), show ruleB a0 a1 a2 a3 a4 a5 = false by unfold ruleB; rw [c0, c1, c2]; rfl]; rfl
  have c2 := Bool.eq_false_iff.mpr c2
  rw [if_pos (by rw [c2]; rfl)]
  by_cases c3 : outB 1048576 a3 = true
  · rw [hno, if_neg (by rw [c3]; simp), show ruleB a0 a1 a2 a3 a4 a5 = false by unfold ruleB; rw [c0, c1, c2, c3]; rfl]; rfl
  have c3 := Bool.eq_false_iff.mpr c3
  rw [if_pos (by rw [c3]; rfl)]
  by_cases c4 : outB 1099511627776 a4 = true
  · rw [hno, if_neg (by rw [c4]; simp), show ruleB a0 a1 a2 a3 a4 a5 = false by unfold ruleB; rw [c0, c1, c2, c3, c4]; rfl]; rfl
  have c4 := Bool.eq_false_iff.mpr c4
  rw [if_pos (by rw [c4]; rfl)]
  by_cases c5 : outB 1099511627776 a5 = true
  · rw [c5, show ruleB a0 a1 a2 a3 a4 a5 = false by unfold ruleB; rw [c0, c1, c2, c3, c4, c5]; rfl]
    exact hno
  have c5 := Bool.eq_false_iff.mpr c5
  have hB : ruleB a0 a1 a2 a3 a4 a5 = true := by unfold ruleB; rw [c0, c1, c2, c3, c4, c5]; rfl
  rw [c5, hB]
  have z1 := inZ c1
  have z2 := inZ c2
  have z3 := inZ c3
  simp only [Bool.not_false, Bool.not_true, gutterref18_Rules.j0, gutterref18_Rules.j1, gutterref18_Rules.j2, if_true]
  have hl : gutterref18_Rules.l0 k a0 a1 a2 a3 a4 a5 ((a2 - a3) / 2) [] 0 = some (if a3 = 0 then [] else rulesL (a0.toNat - 1) a1 a2 a3 a4 a5, 0) := by
    by_cases h3 : a3 = 0
    · obtain ⟨k, rfl⟩ : ∃ m, k = m + 1 := ⟨k - 1, by omega⟩
      simp only [gutterref18_Rules.l0]
      rw [if_pos h3, if_neg (show ¬ a3 > 0 by omega)]
      split <;> rfl
    · rw [if_neg h3]
      exact rule_loop _ a0 a1 a2 a3 a4 a5 z0.2 rfl z1 z2 (by omega) (a0.toNat - 1) k 0 (by omega) rfl (by omega)
  rw [i64w (x := a2 - a3) (by omega) (by omega), i64w (x := a3 - a2) (by omega) (by omega)]
  have ht : -1048576 ≤ Int.tdiv (a2 - a3) 2 ∧ Int.tdiv (a2 - a3) 2 ≤ 1048576 := by
    have h1 : (Int.tdiv (a2 - a3) 2).natAbs ≤ (a2 - a3).natAbs := by rw [Int.natAbs_tdiv]; exact Nat.div_le_self _ _
    omega
  rw [i64w (x := Int.tdiv (a2 - a3) 2) (by omega) (by omega)]
  by_cases hlt : a2 < a3
  · rw [if_neg (by simp), if_pos hlt]
    by_cases hm : Int.tmod (a3 - a2) 2 = 0
    · rw [if_neg (by simp [hm]), half_b a2 a3 hlt (by omega) hm]
      exact hl
    · rw [if_pos (by simp [hm]), i64w (by omega) (by omega), half_a a2 a3 hlt (by omega) hm]
      exact hl
  · rw [if_neg (by simp), if_neg hlt, if_neg (by simp), Int.tdiv_eq_ediv_of_nonneg (by omega)]
    exact hl
theorem rules_len (a0 a1 a2 a3 a4 a5 : Int) (r : List S30 × Int) (h : paint_Rules.f a0 a1 a2 a3 a4 a5 = some r) : r.1.length ≤ 2000 := by
  have h := Option.some.inj h
  subst h
  split
  · rename_i hB
    dsimp only
    simp only [ruleB, Bool.and_eq_true, Bool.not_eq_true'] at hB
    have := inZ hB.1
    split
    · simp
    · rw [rulesL_len]; omega
  · simp
theorem PaintRules : gutterlaw18_PaintRules.Pure := by
  intro a0 a1 a2 a3 a4 a5 _ _ _ _ _ _
  refine ⟨2100, ?_⟩
  unfold gutterlaw18_PaintRules.f
  rw [shown_ge (by omega), ref_rules 2100 (by omega)]
  obtain ⟨r, hr⟩ : ∃ r, paint_Rules.f a0 a1 a2 a3 a4 a5 = some r := ⟨_, rfl⟩
  have hl := rules_len a0 a1 a2 a3 a4 a5 r hr
  rw [hr]
  simp only [Option.bind_some, if_true]
  rw [rects_refl _ _ (by omega) (by omega)]
  simp
end Go.Proofs.YtkmddhljfjjglaaDoor.G
