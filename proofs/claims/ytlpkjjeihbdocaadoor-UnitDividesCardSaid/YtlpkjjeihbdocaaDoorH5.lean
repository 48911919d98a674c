/- Chapter 1, plain: products and quotients, turned about. -/
import Derived.Test.YtlpkjjeihbdocaaDoorH2
import Derived.Test.YtlpkjjeihbdocaaDoorG10
import Derived.Test.YtlpkjjeihbdocaaDoorG11
namespace Go.Proofs.YtlpkjjeihbdocaaDoor.G
open Go.RowKit Go.Proofs.YtlpkjjeihbdocaaDoorW.PrintWords Go.Proofs.YtlpkjjeihbdocaaDoorW.PrintLast Go.Proofs.YtlpkjjeihbdocaaDoorW.PrintMore

theorem mul_turn {a n : Int} (ha : lenB a = true) (hn : lenB n = true) : unit_Mul.f a n = unit_Mul.f n a := by
  unfold unit_Mul.f
  rw [ha, hn]
  simp only [if_true]
  by_cases h0 : a = 0
  · subst h0
    by_cases h1 : n = 0
    · simp [h1]
    · simp [h1, resZ]; decide
  · by_cases h1 : n = 0
    · subst h1
      simp [h0, resZ]; decide
    · rw [if_neg h0, if_neg h1, Int.mul_comm]
theorem UnitSigns_j0 (a n : Int) (hn : r64 n) (ha : r64 a) : gutterlaw01_UnitSigns.j0 1 a n true false = some true := by
  simp only [gutterlaw01_UnitSigns.j0]
  rw [div_f hn, up_f hn]
  simp only [Option.bind_some, unit_Right.f]
  cases hl : lenB a
  · have h2 : lenB (wrap64 (-a)) = false := by
      cases h : lenB (wrap64 (-a))
      · rfl
      · exfalso
        have h3 := (lenB_iff _).1 h
        have h4 : ¬ (-1073741824 ≤ a ∧ a ≤ 1073741824) := fun h5 => by rw [(lenB_iff a).2 h5] at hl; cases hl
        unfold r64 at ha
        unfold wrap64 at h3
        omega
    simp [h2]
  · have hb := (lenB_iff a).1 hl
    rw [i64_in (x := -a) (by omega) (by omega)]
    have h2 : lenB (-a) = true := (lenB_iff _).2 (by omega)
    have hu := upZ_in (n := n) h2
    by_cases h0 : n = 0
    · simp [h0, h2]
    · simp [h0, h2, div_neg a n, i64_in (x := -upZ (-a) n) (by omega) (by omega)]
theorem UnitSigns : gutterlaw01_UnitSigns.Pure := by
  intro a n w0 w1
  refine ⟨1, ?_⟩
  have hn := wf64 w1
  have hj := UnitSigns_j0 a n hn (wf64 w0)
  unfold gutterlaw01_UnitSigns.f
  rw [shown_ok, Option.bind_some]
  obtain ⟨r1, h1⟩ : ∃ r, unit_Mul.f a n = some r := ⟨_, rfl⟩
  obtain ⟨r2, h2⟩ : ∃ r, unit_Mul.f n a = some r := ⟨_, rfl⟩
  rw [h1, Option.bind_some, h2, Option.bind_some, unit_Right.f, Option.bind_some, unit_Right.f]
  by_cases ha : lenB a = true
  · rw [if_pos ha, Option.bind_some]
    by_cases hb : lenB n = true
    · rw [mul_turn ha hb, h2] at h1
      obtain rfl := Option.some.inj h1
      rw [if_pos hb, if_pos rfl, bne_self_eq_false]
      exact hj
    · rw [if_neg hb]
      exact hj
  · rw [if_neg ha]
    exact hj
theorem div_mul {a n : Int} (hn : n ≠ 0) : divZ (a * n) n = a ∧ upZ (a * n) n = a := by
  have h1 : (a * n).tmod n = 0 := Int.mul_tmod_left a n
  have h2 : (a * n).tdiv n = a := Int.mul_tdiv_cancel a hn
  unfold upZ divZ
  rw [h1, h2]
  simp
theorem UnitDivides : gutterlaw01_UnitDivides.Pure := by
  intro a n _ w1
  refine ⟨1, ?_⟩
  have hn := wf64 w1
  unfold gutterlaw01_UnitDivides.f
  rw [shown_ok, Option.bind_some]
  obtain ⟨⟨p, e⟩, h1⟩ : ∃ r, unit_Mul.f a n = some r := ⟨_, rfl⟩
  rw [h1, Option.bind_some]
  unfold unit_Mul.f at h1
  have h2 := Option.some.inj h1
  have key : (e ≠ 0 → p = 0) ∧ (e = 0 → a = 0 ∨ (lenB p = true ∧ p = a * n)) := by
    by_cases ha : lenB a = true
    · rw [if_pos ha] at h2
      by_cases h0 : a = 0
      · rw [if_pos h0] at h2
        obtain ⟨rfl, rfl⟩ := Prod.mk.inj h2
        exact ⟨fun _ => rfl, fun _ => .inl h0⟩
      · rw [if_neg h0] at h2
        by_cases hb : lenB n = true
        · rw [if_pos hb, resZ] at h2
          by_cases hm : lenB (a * n) = true
          · rw [if_pos hm] at h2
            obtain ⟨rfl, rfl⟩ := Prod.mk.inj h2
            exact ⟨fun h => absurd rfl h, fun _ => .inr ⟨hm, rfl⟩⟩
          · rw [if_neg hm] at h2
            obtain ⟨rfl, rfl⟩ := Prod.mk.inj h2
            exact ⟨fun _ => rfl, fun h => absurd h (by decide)⟩
        · rw [if_neg hb] at h2
          obtain ⟨rfl, rfl⟩ := Prod.mk.inj h2
          exact ⟨fun _ => rfl, fun h => absurd h (by decide)⟩
    · rw [if_neg ha] at h2
      obtain ⟨rfl, rfl⟩ := Prod.mk.inj h2
      exact ⟨fun _ => rfl, fun h => absurd h (by decide)⟩
  by_cases he : e = 0
  · rw [if_pos he]
    simp only [gutterlaw01_UnitDivides.j0]
    by_cases h0 : n = 0
    · simp [h0, he]
    · have e1 : (n == 0) = false := by simp [h0]
      rw [e1, if_neg (by simp), div_f hn, up_f hn]
      rcases key.2 he with h | ⟨h3, rfl⟩
      · simp [h]
      · simp [h3, h0, div_mul h0]
  · rw [if_neg he]
    simp only [gutterlaw01_UnitDivides.j0]
    simp [he, key.1 he]
end Go.Proofs.YtlpkjjeihbdocaaDoor.G
