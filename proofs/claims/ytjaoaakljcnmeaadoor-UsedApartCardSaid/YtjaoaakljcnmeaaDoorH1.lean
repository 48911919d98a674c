/- Chapter 6: how many, how wide, where, what is left: plain arithmetic. Written by mkH1.py. -/
import Derived.Test.YtjaoaakljcnmeaaDoorF13
namespace Go.Proofs.YtjaoaakljcnmeaaDoor.G
open Go.RowKit

/-- What is known of columns that are right. -/
structure Col (s0 s1 s2 av n wd : Int) : Prop where
  g0 : 0 ≤ s0 ∧ s0 ≤ 50
  g1 : 0 ≤ s1 ∧ s1 ≤ 1048576
  g2 : 0 ≤ s2 ∧ s2 ≤ 1048576
  ga : 0 ≤ av ∧ av ≤ 1048576
  mu : 0 < s0 ∨ 0 < s1
  en : n = manyZ s0 s1 s2 av
  ew : wd = wideZ n s2 av
  gn : 1 ≤ n ∧ n ≤ 50
theorem usedZ_ok (s0 : Int) (s1 : Int) (s2 : Int) (s3 : Int) (s4 : Bool) (s5 : Int) (s6 : Int) (s7 : Int) (s8 : Bool) (s9 : Int) (s10 : Int) (s11 : Bool) (s12 : Int) (s13 : Bool) (s14 : Int) (s15 : Int) (av : Int) (h : (usedZ s0 s1 s2 s3 s4 s5 s6 s7 s8 s9 s10 s11 s12 s13 s14 s15 av).2.2 = 0) : rightB s0 s1 s2 s3 s4 s5 s6 s7 s8 s9 s10 s11 s12 s13 s14 s15 = true ∧ multiB s0 s1 = true ∧ sizB av = true ∧ Col s0 s1 s2 av (usedZ s0 s1 s2 s3 s4 s5 s6 s7 s8 s9 s10 s11 s12 s13 s14 s15 av).1 (usedZ s0 s1 s2 s3 s4 s5 s6 s7 s8 s9 s10 s11 s12 s13 s14 s15 av).2.1 := by
  by_cases hr : (rightB s0 s1 s2 s3 s4 s5 s6 s7 s8 s9 s10 s11 s12 s13 s14 s15 && multiB s0 s1) = true
  · by_cases hz : sizB av = true
    · have e : usedZ s0 s1 s2 s3 s4 s5 s6 s7 s8 s9 s10 s11 s12 s13 s14 s15 av = (manyZ s0 s1 s2 av, wideZ (manyZ s0 s1 s2 av) s2 av, 0) := by rw [usedZ, if_pos hr, if_pos hz]
      rw [Bool.and_eq_true] at hr
      obtain ⟨i0, i1, i2⟩ := right_in hr.1
      rw [e]
      refine ⟨hr.1, hr.2, hz, i0, (sizB_iff _).1 i1, (sizB_iff _).1 i2, (sizB_iff _).1 hz, ?_, rfl, rfl, many_in i0 hr.2⟩
      have hm := hr.2
      simp only [multiB, Bool.or_eq_true, decide_eq_true_eq] at hm
      exact hm
    · rw [usedZ, if_pos hr, if_neg hz] at h
      exact absurd h (by decide)
  · rw [usedZ, if_neg hr] at h
    exact absurd h (by decide)
theorem usedZ_bad (s0 : Int) (s1 : Int) (s2 : Int) (s3 : Int) (s4 : Bool) (s5 : Int) (s6 : Int) (s7 : Int) (s8 : Bool) (s9 : Int) (s10 : Int) (s11 : Bool) (s12 : Int) (s13 : Bool) (s14 : Int) (s15 : Int) (av : Int) (h : (usedZ s0 s1 s2 s3 s4 s5 s6 s7 s8 s9 s10 s11 s12 s13 s14 s15 av).2.2 ≠ 0) : (usedZ s0 s1 s2 s3 s4 s5 s6 s7 s8 s9 s10 s11 s12 s13 s14 s15 av).1 = 0 ∧ (usedZ s0 s1 s2 s3 s4 s5 s6 s7 s8 s9 s10 s11 s12 s13 s14 s15 av).2.1 = 0 := by
  unfold usedZ at *
  split at h
  · split at h
    · exact absurd rfl h
    · rename_i h1 h2
      rw [if_pos h1, if_neg h2]
      exact ⟨rfl, rfl⟩
  · rename_i h1
    rw [if_neg h1]
    exact ⟨rfl, rfl⟩
theorem mul_in {a b c d : Int} (ha : 0 ≤ a ∧ a ≤ c) (hb : 0 ≤ b ∧ b ≤ d) : 0 ≤ a * b ∧ a * b ≤ c * d :=
  ⟨Int.mul_nonneg ha.1 hb.1, Int.mul_le_mul ha.2 hb.2 hb.1 (by omega)⟩
theorem wide_way {n gap av : Int} (hn : 1 ≤ n ∧ n ≤ 50) (hg : 0 ≤ gap ∧ gap ≤ 1048576) (ha : 0 ≤ av ∧ av ≤ 1048576) :
    ((n - 1) * gap < av ∧ 0 ≤ wideZ n gap av ∧ wideZ n gap av ≤ 1048576 ∧ n * wideZ n gap av ≤ av - (n - 1) * gap ∧ av - (n - 1) * gap < n * wideZ n gap av + n) ∨ (av ≤ (n - 1) * gap ∧ wideZ n gap av = 0) := by
  unfold wideZ
  have hp := mul_in (a := n - 1) (c := 49) (by omega) hg
  generalize (n - 1) * gap = p at *
  by_cases h : p < av
  · rw [if_pos h]
    have h1 := Int.mul_ediv_add_emod (av - p) n
    have h2 := Int.emod_nonneg (av - p) (b := n) (by omega)
    have h3 := Int.emod_lt_of_pos (av - p) (b := n) (by omega)
    have h4 : 0 ≤ (av - p) / n := Int.ediv_nonneg (by omega) (by omega)
    have h5 : (av - p) / n ≤ av - p := Int.ediv_le_self _ (by omega)
    generalize (av - p) / n = q at *
    generalize n * q = m at *
    exact .inl ⟨h, h4, by omega, by omega, by omega⟩
  · rw [if_neg h]
    exact .inr ⟨by omega, rfl⟩
theorem Col.wd_in {s0 s1 s2 av n wd : Int} (h : Col s0 s1 s2 av n wd) : 0 ≤ wd ∧ wd ≤ 1048576 := by
  have h1 := wide_way h.gn h.g2 h.ga
  rw [← h.ew] at h1
  omega
theorem step_in {wd gap : Int} (hw : 0 ≤ wd ∧ wd ≤ 1048576) (hg : 0 ≤ gap ∧ gap ≤ 1048576) : wrap64 (wd + gap) = wd + gap := i64_in (by omega) (by omega)
theorem left_in {wd gap : Int} (hw : 0 ≤ wd ∧ wd ≤ 1048576) (hg : 0 ≤ gap ∧ gap ≤ 1048576) {i : Int} (hi : 0 ≤ i ∧ i ≤ 1000) : wrap64 (i * wrap64 (wd + gap)) = i * (wd + gap) ∧ 0 ≤ i * (wd + gap) ∧ i * (wd + gap) ≤ 2097152000 := by
  rw [step_in hw hg]
  have h := mul_in (b := wd + gap) (d := 2097152) hi (by omega)
  exact ⟨i64_in (by omega) (by omega), h.1, by omega⟩
theorem mem_lefts {wd gap : Int} {k : Nat} {y : Int × Int} (h : y ∈ leftsL wd gap k) : ∃ j : Nat, j < k ∧ y = ((j : Int), wrap64 ((j : Int) * wrap64 (wd + gap))) := by
  induction k with
  | zero => exact absurd h (by simp [leftsL])
  | succ k ih =>
    rw [leftsL, List.mem_append] at h
    rcases h with h | h
    · obtain ⟨j, hj, e⟩ := ih h
      exact ⟨j, by omega, e⟩
    · exact ⟨k, by omega, by simpa using h⟩
theorem at_hit {wd gap x : Int} {n i : Nat} (hw : 0 ≤ wd ∧ wd ≤ 1048576) (hg : 0 ≤ gap ∧ gap ≤ 1048576) (hn : n ≤ 50) (hi : i < n) (h1 : (i : Int) * (wd + gap) ≤ x) (h2 : x < (i : Int) * (wd + gap) + wd) : atZ wd gap x n = ((i : Int), true) := by
  have hl := left_in hw hg (i := (i : Int)) (by omega)
  refine at_stop (pre := leftsL wd gap (i + 1)) ⟨i, hi, rfl⟩ (p' := leftsL wd gap i) (p := ((i : Int), wrap64 ((i : Int) * wrap64 (wd + gap)))) rfl ?_ ?_
  · rw [List.all_eq_true]
    intro y hy
    obtain ⟨j, hj, rfl⟩ := mem_lefts hy
    have hlj := left_in hw hg (i := (j : Int)) (by omega)
    have hij : (j : Int) * (wd + gap) + (wd + gap) ≤ (i : Int) * (wd + gap) := by
      have h := Int.mul_le_mul_of_nonneg_right (c := wd + gap) (show (j : Int) + 1 ≤ (i : Int) by omega) (by omega)
      rw [Int.add_mul, Int.one_mul] at h
      exact h
    simp only [hitB, hlj.1]
    rw [i64_in (by omega) (by omega)]
    simp
    omega
  · simp only [hitB, hl.1]
    rw [i64_in (by omega) (by omega)]
    simp
    omega
theorem at_none {gap x : Int} {n : Nat} (hg : 0 ≤ gap ∧ gap ≤ 1048576) (hn : n ≤ 50) : atZ 0 gap x n = (0, false) := by
  refine at_done ?_
  rw [List.all_eq_true]
  intro y hy
  obtain ⟨j, hj, rfl⟩ := mem_lefts hy
  have hlj := left_in (wd := 0) (by omega) hg (i := (j : Int)) (by omega)
  simp only [hitB, hlj.1]
  rw [i64_in (by omega) (by omega), Int.add_zero]
  generalize (j : Int) * (0 + gap) = m
  simp
  omega
theorem slack_eq {wd gap av : Int} (hw : 0 ≤ wd ∧ wd ≤ 1048576) (hg : 0 ≤ gap ∧ gap ≤ 1048576) (ha : 0 ≤ av ∧ av ≤ 1048576) (k : Nat) (hk : k ≤ 49) :
    slackZ wd gap av (leftsL wd gap (k + 1)) = av - (k + 1 : Nat) * wd - k * gap := by
  have hs := step_in hw hg
  induction k with
  | zero =>
    show stepZ wd gap av (((0 : Nat) : Int), wrap64 (((0 : Nat) : Int) * wrap64 (wd + gap))) = _
    have hl : wrap64 (((0 : Nat) : Int) * wrap64 (wd + gap)) = 0 := by rw [show ((0 : Nat) : Int) = 0 from rfl, Int.zero_mul]; exact i64_in (by omega) (by omega)
    rw [hl]
    unfold stepZ
    rw [hs, i64_in (x := av - wd) (by omega) (by omega), i64_in (x := av - wd - gap) (by omega) (by omega)]
    have e1 : ((0 + 1 : Nat) : Int) * wd = wd := by simp
    have e2 : ((0 : Nat) : Int) * gap = 0 := by simp
    rw [e1, e2]
    dsimp only
    split <;> omega
  | succ k ih =>
    rw [leftsL, slackZ_snoc, ih (by omega)]
    have hl := left_in hw hg (i := ((k + 1 : Nat) : Int)) (by omega)
    have m1 := mul_in (a := ((k + 1 : Nat) : Int)) (c := 50) (by omega) hw
    have m2 := mul_in (a := (k : Int)) (c := 50) (by omega) hg
    have e1 : ((k + 1 + 1 : Nat) : Int) * wd = ((k + 1 : Nat) : Int) * wd + wd := by
      rw [show ((k + 1 + 1 : Nat) : Int) = ((k + 1 : Nat) : Int) + 1 by omega, Int.add_mul, Int.one_mul]
    have e2 : ((k + 1 : Nat) : Int) * gap = (k : Int) * gap + gap := by
      rw [show ((k + 1 : Nat) : Int) = (k : Int) + 1 by omega, Int.add_mul, Int.one_mul]
    have e3 : ((k + 1 : Nat) : Int) * (wd + gap) = (k : Int) * (wd + gap) + (wd + gap) := by
      rw [show ((k + 1 : Nat) : Int) = (k : Int) + 1 by omega, Int.add_mul, Int.one_mul]
    have e4 := mul_in (a := (k : Int)) (b := wd + gap) (c := 50) (d := 2097152) (by omega) (by omega)
    have hl1 := hl.1
    rw [hs] at hl1
    rw [e1, e2, hs, hl1, e3]
    unfold stepZ
    rw [hs]
    dsimp only
    generalize ((k + 1 : Nat) : Int) * wd = p at *
    generalize (k : Int) * gap = q at *
    generalize (k : Int) * (wd + gap) = r at *
    rw [i64_in (x := av - p - q - wd) (by omega) (by omega), i64_in (x := av - p - q - wd - gap) (by omega) (by omega)]
    split <;> omega
end Go.Proofs.YtjaoaakljcnmeaaDoor.G
