/- Chapter 1, plain: what is added is taken away; products and quotients, turned about. -/
import Derived.Test.YtlpkjjeihbdocaaDoorH2
import Derived.Test.YtlpkjjeihbdocaaDoorG9
namespace Go.Proofs.YtlpkjjeihbdocaaDoor.G
open Go.RowKit Go.Proofs.YtlpkjjeihbdocaaDoorW.PrintWords Go.Proofs.YtlpkjjeihbdocaaDoorW.PrintLast Go.Proofs.YtlpkjjeihbdocaaDoorW.PrintMore

theorem add_sub {a n x : Int} (h : unit_Add.f a n = some (x, 0)) : unit_Sub.f x n = some (a, 0) := by
  unfold unit_Add.f at h
  have h1 := Option.some.inj h
  by_cases hl : (lenB a && lenB n) = true
  · rw [if_pos hl, resZ] at h1
    rw [Bool.and_eq_true] at hl
    by_cases hs : lenB (a + n) = true
    · rw [if_pos hs] at h1
      obtain rfl := (Prod.mk.inj h1).1
      unfold unit_Sub.f
      rw [hs, hl.2]
      have e : a + n - n = a := by omega
      simp [resZ, e, hl.1]
    · rw [if_neg hs] at h1
      exact absurd (Prod.mk.inj h1).2 (by decide)
  · rw [if_neg hl] at h1
    exact absurd (Prod.mk.inj h1).2 (by decide)
theorem back_bound {q n : Int} (h : -1073741825 ≤ q ∧ q ≤ 1073741825) (hn : -1000 ≤ n ∧ n ≤ 1000) : -1073741825000 ≤ q * n ∧ q * n ≤ 1073741825000 := by
  have h1 : (q * n).natAbs ≤ 1073741825 * 1000 := by
    rw [Int.natAbs_mul]
    exact Nat.mul_le_mul (by omega) (by omega)
  omega
theorem UnitBack_j0 (a n : Int) (hn : r64 n) (d u : Int × Int) (hd : unit_Div.f a n = some d) (hu : unit_Up.f a n = some u) : gutterlaw01_UnitBack.j0 1 a n true d.1 d.2 u.1 u.2 false = some true := by
  rw [div_f hn] at hd
  rw [up_f hn] at hu
  have hd' := Option.some.inj hd
  have hu' := Option.some.inj hu
  simp only [gutterlaw01_UnitBack.j0]
  cases ha : lenB a
  · rw [ha] at hd' hu'
    subst hd' hu'
    simp [unit_Right.f, ha]
  · rw [ha] at hd' hu'
    simp only [if_true] at hd' hu'
    by_cases h0 : n = 0
    · rw [if_pos h0] at hd' hu'
      subst hd' hu'
      simp [h0]
    · rw [if_neg h0] at hd' hu'
      subst hd' hu'
      have b1 := divZ_in (n := n) ha
      have b2 := upZ_in (n := n) ha
      by_cases c1 : n > 1000
      · simp only [c1, if_true, upZ]
        rw [i64_in (x := divZ a n + 1) (by omega) (by omega)]
        by_cases hm : a.tmod n = 0 <;> simp [hm]
      · by_cases c2 : n < -1000
        · simp only [c1, c2, if_true, if_false, upZ]
          rw [i64_in (x := divZ a n + 1) (by omega) (by omega)]
          by_cases hm : a.tmod n = 0 <;> simp [hm]
        · have m1 := back_bound (q := divZ a n) (n := n) (by omega) (by omega)
          have m2 := back_bound (q := upZ a n) (n := n) (by omega) (by omega)
          have o1 := div_off (a := a) h0
          have o2 := up_off (a := a) h0
          have hl := (lenB_iff a).1 ha
          rw [i64_in (x := divZ a n * n) (by omega) (by omega), i64_in (x := upZ a n * n) (by omega) (by omega), i64_in (x := a - divZ a n * n) (by omega) (by omega), i64_in (x := upZ a n * n - a) (by omega) (by omega)]
          generalize a - divZ a n * n = x at *
          generalize upZ a n * n - a = y at *
          simp only [c1, c2, if_true, if_false]
          by_cases hs : n > 0
          · obtain ⟨p1, p2⟩ := o1.1 hs
            obtain ⟨p3, p4⟩ := o2.1 hs
            have hs2 : 0 < n := hs
            simp [hs2, p1, p2, p3, p4]
          · have hs' : n < 0 := by omega
            obtain ⟨p1, p2⟩ := o1.2 hs'
            obtain ⟨p3, p4⟩ := o2.2 hs'
            have hs2 : ¬ 0 < n := hs
            simp [hs2, hs', p1, p2, p3, p4]
theorem UnitBack : gutterlaw01_UnitBack.Pure := by
  intro a n _ w1
  refine ⟨1, ?_⟩
  have hn := wf64 w1
  unfold gutterlaw01_UnitBack.f
  rw [shown_ok, Option.bind_some]
  obtain ⟨⟨x, e⟩, h1⟩ : ∃ r, unit_Add.f a n = some r := ⟨_, rfl⟩
  obtain ⟨r2, h2⟩ : ∃ r, unit_Sub.f x n = some r := ⟨_, rfl⟩
  obtain ⟨r4, h4⟩ : ∃ r, unit_Div.f a n = some r := ⟨_, div_f hn⟩
  obtain ⟨r5, h5⟩ : ∃ r, unit_Up.f a n = some r := ⟨_, up_f hn⟩
  have hj := UnitBack_j0 a n hn r4 r5 h4 h5
  rw [h1, Option.bind_some, h2, Option.bind_some, h4, Option.bind_some, h5, Option.bind_some]
  by_cases he : e = 0
  · subst he
    rw [add_sub h1] at h2
    obtain rfl := Option.some.inj h2
    simpa using hj
  · rw [if_neg he]
    exact hj
end Go.Proofs.YtlpkjjeihbdocaaDoor.G
