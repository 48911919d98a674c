/- Chapter 6: UsedFits, UsedMore, plainly. Written by mkH2.py. -/
import Derived.Test.YtjaoaakljcnmeaaDoorH0
import Derived.Test.YtjaoaakljcnmeaaDoorG3
import Derived.Test.YtjaoaakljcnmeaaDoorG4
namespace Go.Proofs.YtjaoaakljcnmeaaDoor.G
open Go.RowKit Go.Proofs.YtjaoaakljcnmeaaDoorW.PrintWords Go.Proofs.YtjaoaakljcnmeaaDoorW.PrintLast Go.Proofs.YtjaoaakljcnmeaaDoorW.PrintMore

theorem UsedFits : gutterlaw06_UsedFits.Pure := by
  intro a n g _ _ _
  unfold gutterlaw06_UsedFits.f gutterlaw06_shown.f used_Fits.f
  simp [fits06]
theorem fitsZ_ok {a n g : Int} (h : (fitsZ a n g).2 = 0) : sizB a = true ∧ sizB n = true ∧ sizB g = true ∧ 0 < n + g ∧ (fitsZ a n g).1 = fitZ a n g := by
  unfold fitsZ at *
  split at h
  · rename_i hc
    rw [if_pos hc]
    simp at hc
    exact ⟨hc.1.1, hc.1.2.1, hc.1.2.2, hc.2, rfl⟩
  · exact absurd h (by decide)
theorem fitsZ_bad {a n g : Int} (h : (fitsZ a n g).2 ≠ 0) : fitsZ a n g = (0, 60) := by
  unfold fitsZ at *
  split at h
  · exact absurd rfl h
  · rename_i hc; rw [if_neg hc]
theorem fitZ_more {a b n g : Int} (h : a ≤ b) (h0 : 0 < n + g) : fitZ a n g ≤ fitZ b n g := by
  have := Int.ediv_le_ediv h0 (show a + g ≤ b + g by omega)
  unfold fitZ
  generalize (a + g) / (n + g) = p at *
  generalize (b + g) / (n + g) = q at *
  omega
theorem fitZ_less {a n m g : Int} (ha : 0 ≤ a) (hg : 0 ≤ g) (h : n ≤ m) (h0 : 0 < n + g) : fitZ a m g ≤ fitZ a n g := by
  have : (a + g) / (m + g) ≤ (a + g) / (n + g) := by
    have h1 := Int.mul_ediv_self_le (x := a + g) (k := m + g) (by omega)
    have h2 : 0 ≤ (a + g) / (m + g) := Int.ediv_nonneg (by omega) (by omega)
    rw [Int.le_ediv_iff_mul_le h0]
    have h3 := Int.mul_le_mul_of_nonneg_left (show n + g ≤ m + g by omega) h2
    have h4 := Int.mul_comm (m + g) ((a + g) / (m + g))
    omega
  unfold fitZ
  generalize (a + g) / (n + g) = p at *
  generalize (a + g) / (m + g) = q at *
  omega
theorem UsedMore : gutterlaw06_UsedMore.Pure := by
  intro a n g b m _ _ _ _ _
  unfold gutterlaw06_UsedMore.f gutterlaw06_shown.f used_Fits.f
  simp only [Option.bind_some]
  by_cases h1 : (fitsZ a n g).2 = 0
  · obtain ⟨s1, s2, s3, h0, e1⟩ := fitsZ_ok h1
    have l3 : ∀ (k : (fitsZ a m g).2 = 0), ¬ m < n → (fitsZ a m g).1 ≤ (fitsZ a n g).1 := fun k hmn => by
      obtain ⟨_, _, _, _, e3⟩ := fitsZ_ok k
      rw [e1, e3]
      exact fitZ_less ((sizB_iff _).1 s1).1 ((sizB_iff _).1 s3).1 (by omega) h0
    have l2 : ∀ (k : (fitsZ b n g).2 = 0), a ≤ b → (fitsZ a n g).1 ≤ (fitsZ b n g).1 := fun k hab => by
      obtain ⟨_, _, _, _, e3⟩ := fitsZ_ok k
      rw [e1, e3]
      exact fitZ_more hab h0
    have last : (if (fitsZ a m g).2 = 0 then (if m < n then (some true) else (some (decide ((fitsZ a m g).1 ≤ (fitsZ a n g).1)))) else (some true)) = some true := by
      split
      · rename_i k
        split
        · rfl
        · rename_i hmn
          rw [decide_eq_true (l3 k hmn)]
      · rfl
    rw [if_pos h1, if_pos trivial, last]
    by_cases h2 : (fitsZ b n g).2 = 0
    · rw [if_pos h2]
      by_cases hab : b ≥ a
      · rw [if_pos hab, if_pos (by rw [decide_eq_true hab, decide_eq_true (show (fitsZ b n g).1 ≥ (fitsZ a n g).1 from l2 h2 hab)]; rfl)]
      · rw [if_neg hab, if_pos (by rw [decide_eq_false hab]; rfl)]
    · rw [if_neg h2]
  · rw [if_neg h1, fitsZ_bad h1]
    simp
end Go.Proofs.YtjaoaakljcnmeaaDoor.G
