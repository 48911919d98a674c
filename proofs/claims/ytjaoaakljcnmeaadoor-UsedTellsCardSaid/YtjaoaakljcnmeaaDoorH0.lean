/- Chapter 6: the reference's Fits, plainly. Written by mkH0.py. -/
import Derived.Test.YtjaoaakljcnmeaaDoorG2
namespace Go.Proofs.YtjaoaakljcnmeaaDoor.G
open Go.RowKit Go.Proofs.YtjaoaakljcnmeaaDoorW.PrintWords Go.Proofs.YtjaoaakljcnmeaaDoorW.PrintLast Go.Proofs.YtjaoaakljcnmeaaDoorW.PrintMore

theorem size06 (a : Int) : gutterref06_size.f a = some (sizB a) := by
  unfold gutterref06_size.f sizB
  by_cases h : 0 ≤ a
  · rw [if_pos (show a ≥ 0 from h)]; simp [h]
  · rw [if_neg (show ¬ a ≥ 0 from h)]
    simp
    omega
theorem fit_eq {a n g : Int} (ha : 0 ≤ a ∧ a ≤ 1048576) (hn : 0 ≤ n ∧ n ≤ 1048576) (hg : 0 ≤ g ∧ g ≤ 1048576) (h0 : 0 < n + g) : mn (mx (wrap64 (Int.tdiv (wrap64 (a + g)) (wrap64 (n + g)))) 1) 50 = fitZ a n g := by
  rw [i64_in (x := a + g) (by omega) (by omega), i64_in (x := n + g) (by omega) (by omega), Int.tdiv_eq_ediv_of_nonneg (by omega)]
  have h1 : 0 ≤ (a + g) / (n + g) := Int.ediv_nonneg (by omega) (by omega)
  have h2 : (a + g) / (n + g) ≤ a + g := Int.ediv_le_self _ (by omega)
  rw [i64_in (by omega) (by omega)]
  unfold fitZ mn mx
  generalize (a + g) / (n + g) = q at *
  split <;> split <;> omega
theorem fits06 (a n g : Int) : gutterref06_Fits.f a n g = some (fitsZ a n g) := by
  unfold gutterref06_Fits.f fitsZ
  simp only [size06, Option.bind_some]
  by_cases ha : sizB a = true
  · by_cases hn : sizB n = true
    · by_cases hg : sizB g = true
      · rw [if_pos ha, if_pos hn, if_pos hg]
        have a1 := (sizB_iff a).1 ha
        have n1 := (sizB_iff n).1 hn
        have g1 := (sizB_iff g).1 hg
        rw [i64_in (x := n + g) (by omega) (by omega)]
        by_cases h0 : n + g = 0
        · rw [if_pos h0]
          simp [h0]
        · rw [if_neg h0]
          have e := fit_eq a1 n1 g1 (by omega)
          rw [i64_in (x := n + g) (by omega) (by omega)] at e
          rw [e, if_pos (by simp [ha, hn, hg]; omega)]
      · rw [if_pos ha, if_pos hn, if_neg hg]; simp [hg]
    · rw [if_pos ha, if_neg hn]; simp [hn]
  · rw [if_neg ha]; simp [ha]
end Go.Proofs.YtjaoaakljcnmeaaDoor.G
