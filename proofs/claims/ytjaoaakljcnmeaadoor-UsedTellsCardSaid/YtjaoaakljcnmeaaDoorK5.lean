/- Chapter 6: the reference's answers, plainly; UsedApart, UsedTells. Written by mkK5.py. -/
import Derived.Test.YtjaoaakljcnmeaaDoorK2
import Derived.Test.YtjaoaakljcnmeaaDoorH0
import Derived.Test.YtjaoaakljcnmeaaDoorH1
import Derived.Test.YtjaoaakljcnmeaaDoorG6
namespace Go.Proofs.YtjaoaakljcnmeaaDoor.G
open Go.RowKit Go.Proofs.YtjaoaakljcnmeaaDoorW.PrintWords Go.Proofs.YtjaoaakljcnmeaaDoorW.PrintLast Go.Proofs.YtjaoaakljcnmeaaDoorW.PrintMore

theorem wide06 {n gap av : Int} (hn : 1 ≤ n ∧ n ≤ 50) (hg : 0 ≤ gap ∧ gap ≤ 1048576) (ha : 0 ≤ av ∧ av ≤ 1048576) :
    (if (wrap64 (av - (wrap64 ((wrap64 (n - 1)) * gap)))) < 0 then (some (n, 0, 0)) else (if n = 0 then (none) else (some (n, wrap64 (Int.tdiv (wrap64 (av - (wrap64 ((wrap64 (n - 1)) * gap)))) n), 0)))) = (some (n, wideZ n gap av, 0) : Option (Int × Int × Int)) := by
  have hp := mul_in (a := n - 1) (c := 49) (by omega) hg
  rw [i64_in (x := n - 1) (by omega) (by omega), i64_in (x := (n - 1) * gap) (by omega) (by omega), i64_in (x := av - (n - 1) * gap) (by omega) (by omega)]
  unfold wideZ
  generalize (n - 1) * gap = p at *
  by_cases h : av - p < 0
  · rw [if_pos h, if_neg (by omega)]
  · rw [if_neg h, if_neg (by omega), Int.tdiv_eq_ediv_of_nonneg (by omega)]
    have h1 : 0 ≤ (av - p) / n := Int.ediv_nonneg (by omega) (by omega)
    have h2 : (av - p) / n ≤ av - p := Int.ediv_le_self _ (by omega)
    rw [i64_in (by omega) (by omega)]
    by_cases h3 : p < av
    · rw [if_pos h3]
    · rw [if_neg h3, show av - p = 0 by omega, Int.zero_ediv]
theorem used06 (k : Nat) (s0 : Int) (s1 : Int) (s2 : Int) (s3 : Int) (s4 : Bool) (s5 : Int) (s6 : Int) (s7 : Int) (s8 : Bool) (s9 : Int) (s10 : Int) (s11 : Bool) (s12 : Int) (s13 : Bool) (s14 : Int) (s15 : Int) (av : Int) : gutterref06_Used.f (k + 2) av s0 s1 s2 s3 s4 s5 s6 s7 s8 s9 s10 s11 s12 s13 s14 s15 = some (usedZ s0 s1 s2 s3 s4 s5 s6 s7 s8 s9 s10 s11 s12 s13 s14 s15 av) := by
  unfold gutterref06_Used.f gutterref04_Right.f gutterref04_IsMulti.f
  simp only [Option.bind_some]
  by_cases hr : rightB s0 s1 s2 s3 s4 s5 s6 s7 s8 s9 s10 s11 s12 s13 s14 s15 = true
  · rw [if_pos hr]
    by_cases hm : multiB s0 s1 = true
    · rw [hm]
      simp only [gutterref06_Used.j0, size06, Option.bind_some]
      rw [if_neg (by simp)]
      by_cases hz : sizB av = true
      · obtain ⟨i0, i1, i2⟩ := right_in hr
        have g1 := (sizB_iff _).1 i1
        have g2 := (sizB_iff _).1 i2
        have ga := (sizB_iff _).1 hz
        have hmm := many_in (av := av) (s2 := s2) i0 hm
        have e : usedZ s0 s1 s2 s3 s4 s5 s6 s7 s8 s9 s10 s11 s12 s13 s14 s15 av = (manyZ s0 s1 s2 av, wideZ (manyZ s0 s1 s2 av) s2 av, 0) := by rw [usedZ, if_pos (by rw [hr, hm]; rfl), if_pos hz]
        rw [if_pos hz, e]
        by_cases h1 : s1 > 0
        · have ef : (fitsZ av s1 s2).1 = fitZ av s1 s2 := by rw [fitsZ, if_pos (by simp [hz, i1, i2]; omega)]
          rw [if_pos h1, fits06]
          simp only [Option.bind_some, ef, gutterref06_Used.j1]
          by_cases h0 : s0 = 0
          · have en : manyZ s0 s1 s2 av = fitZ av s1 s2 := by rw [manyZ, if_neg (by omega), if_pos (Or.inl h0)]
            rw [en] at hmm ⊢
            rw [if_pos h0, if_pos trivial, wide06 hmm g2 ga]
          · rw [if_neg h0]
            by_cases hf : fitZ av s1 s2 < s0
            · have en : manyZ s0 s1 s2 av = fitZ av s1 s2 := by rw [manyZ, if_neg (by omega), if_pos (Or.inr hf)]
              rw [en] at hmm ⊢
              rw [if_pos (decide_eq_true hf), wide06 hmm g2 ga]
            · have en : manyZ s0 s1 s2 av = s0 := by rw [manyZ, if_neg (by omega), if_neg (by omega)]
              rw [en] at hmm ⊢
              rw [if_neg (by simpa using hf), wide06 hmm g2 ga]
        · have en : manyZ s0 s1 s2 av = s0 := by rw [manyZ, if_pos (by omega)]
          rw [en] at hmm ⊢
          rw [if_neg h1, wide06 hmm g2 ga]
      · rw [if_neg hz, usedZ, if_pos (by rw [hr, hm]; rfl), if_neg hz]
    · have hm' := Bool.eq_false_iff.mpr hm
      rw [hm']
      simp only [gutterref06_Used.j0]
      rw [if_pos (by rfl), usedZ, if_neg (by rw [hm']; simp)]
  · rw [if_neg hr]
    simp only [gutterref06_Used.j0]
    rw [if_pos trivial, usedZ, if_neg (by rw [Bool.eq_false_iff.mpr hr]; simp)]
theorem left06 (k : Nat) (s0 : Int) (s1 : Int) (s2 : Int) (s3 : Int) (s4 : Bool) (s5 : Int) (s6 : Int) (s7 : Int) (s8 : Bool) (s9 : Int) (s10 : Int) (s11 : Bool) (s12 : Int) (s13 : Bool) (s14 : Int) (s15 : Int) (av i : Int) : gutterref06_Left.f (k + 2) av s0 s1 s2 s3 s4 s5 s6 s7 s8 s9 s10 s11 s12 s13 s14 s15 i = used_Left.f av s0 s1 s2 s3 s4 s5 s6 s7 s8 s9 s10 s11 s12 s13 s14 s15 i := by
  unfold gutterref06_Left.f used_Left.f
  rw [used06]
  simp only [Option.bind_some]
  by_cases he : (usedZ s0 s1 s2 s3 s4 s5 s6 s7 s8 s9 s10 s11 s12 s13 s14 s15 av).2.2 = 0
  · rw [if_pos he, if_pos he, leftZ]
    by_cases h1 : i < 0
    · rw [if_pos h1, if_pos (.inl h1)]
    · rw [if_neg h1]
      by_cases h2 : i > 1000
      · rw [if_pos h2, if_pos (.inr h2)]
      · rw [if_neg h2, if_neg (by omega)]
  · rw [if_neg he, if_neg he]
theorem slack06 (k : Nat) (s0 : Int) (s1 : Int) (s2 : Int) (s3 : Int) (s4 : Bool) (s5 : Int) (s6 : Int) (s7 : Int) (s8 : Bool) (s9 : Int) (s10 : Int) (s11 : Bool) (s12 : Int) (s13 : Bool) (s14 : Int) (s15 : Int) (av : Int) : gutterref06_Slack.f (k + 2) av s0 s1 s2 s3 s4 s5 s6 s7 s8 s9 s10 s11 s12 s13 s14 s15 = used_Slack.f av s0 s1 s2 s3 s4 s5 s6 s7 s8 s9 s10 s11 s12 s13 s14 s15 := by
  unfold gutterref06_Slack.f used_Slack.f
  rw [used06]
  simp only [Option.bind_some]
  by_cases he : (usedZ s0 s1 s2 s3 s4 s5 s6 s7 s8 s9 s10 s11 s12 s13 s14 s15 av).2.2 = 0
  · rw [if_pos he, if_pos he]
    have hc := (usedZ_ok s0 s1 s2 s3 s4 s5 s6 s7 s8 s9 s10 s11 s12 s13 s14 s15 av he).2.2.2
    generalize (usedZ s0 s1 s2 s3 s4 s5 s6 s7 s8 s9 s10 s11 s12 s13 s14 s15 av).1 = n at *
    generalize (usedZ s0 s1 s2 s3 s4 s5 s6 s7 s8 s9 s10 s11 s12 s13 s14 s15 av).2.1 = wd at *
    have hn := hc.gn
    have ga := hc.ga
    obtain ⟨j, hj⟩ : ∃ j : Nat, n.toNat = j + 1 := ⟨n.toNat - 1, by omega⟩
    rw [hj, slack_eq hc.wd_in hc.g2 hc.ga j (by omega), show ((j + 1 : Nat) : Int) = n by omega, show (j : Int) = n - 1 by omega]
    have m1 := mul_in (a := n) (c := 50) (by omega) hc.wd_in
    have m2 := mul_in (a := n - 1) (c := 50) (by omega) hc.g2
    rw [i64_in (x := n - 1) (by omega) (by omega)]
    generalize n * wd = p at *
    generalize (n - 1) * s2 = q at *
    rw [i64_in (x := p) (by omega) (by omega), i64_in (x := q) (by omega) (by omega), i64_in (x := av - p) (by omega) (by omega), i64_in (x := av - p - q) (by omega) (by omega)]
  · rw [if_neg he, if_neg he]
theorem at06_loop (s0 : Int) (s1 : Int) (s2 : Int) (s3 : Int) (s4 : Bool) (s5 : Int) (s6 : Int) (s7 : Int) (s8 : Bool) (s9 : Int) (s10 : Int) (s11 : Bool) (s12 : Int) (s13 : Bool) (s14 : Int) (s15 : Int) (x wd : Int) (n : Nat) (hn : n ≤ 50) (d : Nat) : ∀ (k i : Nat), i ≤ n → n - i = d → d < k → missB wd x (leftsL wd s2 i) = true → gutterref06_At.l0 k x n wd i s0 s1 s2 s3 s4 s5 s6 s7 s8 s9 s10 s11 s12 s13 s14 s15 = some ((atZ wd s2 x n).1, (atZ wd s2 x n).2, 0) := by
  induction d with
  | zero =>
    intro k i hi hd hk hm
    obtain ⟨k, rfl⟩ : ∃ j, k = j + 1 := ⟨k - 1, by omega⟩
    obtain rfl : i = n := by omega
    simp only [gutterref06_At.l0]
    rw [if_neg (by omega), at_done hm]
  | succ d ih =>
    intro k i hi hd hk hm
    obtain ⟨k, rfl⟩ : ∃ j, k = j + 1 := ⟨k - 1, by omega⟩
    have next : hitB wd x ((i : Int), wrap64 ((i : Int) * wrap64 (wd + s2))) = false → gutterref06_At.l0 k x n wd (wrap64 ((i : Int) + 1)) s0 s1 s2 s3 s4 s5 s6 s7 s8 s9 s10 s11 s12 s13 s14 s15 = some ((atZ wd s2 x n).1, (atZ wd s2 x n).2, 0) := fun h => by
      rw [i64_in (x := (i : Int) + 1) (by omega) (by omega), show (i : Int) + 1 = ((i + 1 : Nat) : Int) by omega]
      exact ih k (i + 1) (by omega) (by omega) (by omega) (missB_snoc hm h)
    simp only [gutterref06_At.l0]
    rw [if_pos (by omega)]
    by_cases h1 : x ≥ wrap64 ((i : Int) * wrap64 (wd + s2))
    · rw [if_pos h1]
      by_cases h2 : x < wrap64 (wrap64 ((i : Int) * wrap64 (wd + s2)) + wd)
      · rw [if_pos h2]
        have e := at_stop (wd := wd) (gap := s2) (x := x) (n := n) (pre := leftsL wd s2 (i + 1)) ⟨i, by omega, rfl⟩ (p' := leftsL wd s2 i) (p := ((i : Int), wrap64 ((i : Int) * wrap64 (wd + s2)))) rfl hm (by simp only [hitB]; rw [decide_eq_true h2, decide_eq_true (show _ ≤ x from h1)]; rfl)
        rw [e]
      · rw [if_neg h2]
        exact next (by simp only [hitB]; rw [decide_eq_false h2, Bool.and_false])
    · rw [if_neg h1]
      exact next (by simp only [hitB]; rw [decide_eq_false (show ¬ _ ≤ x from h1), Bool.false_and])
theorem at06 (s0 : Int) (s1 : Int) (s2 : Int) (s3 : Int) (s4 : Bool) (s5 : Int) (s6 : Int) (s7 : Int) (s8 : Bool) (s9 : Int) (s10 : Int) (s11 : Bool) (s12 : Int) (s13 : Bool) (s14 : Int) (s15 : Int) (av x : Int) : gutterref06_At.f 60 av s0 s1 s2 s3 s4 s5 s6 s7 s8 s9 s10 s11 s12 s13 s14 s15 x = used_At.f av s0 s1 s2 s3 s4 s5 s6 s7 s8 s9 s10 s11 s12 s13 s14 s15 x := by
  unfold gutterref06_At.f used_At.f
  rw [show (60 : Nat) = 58 + 2 from rfl, used06]
  simp only [Option.bind_some]
  by_cases he : (usedZ s0 s1 s2 s3 s4 s5 s6 s7 s8 s9 s10 s11 s12 s13 s14 s15 av).2.2 = 0
  · rw [if_pos he, if_pos he]
    have hn := (usedZ_ok s0 s1 s2 s3 s4 s5 s6 s7 s8 s9 s10 s11 s12 s13 s14 s15 av he).2.2.2.gn
    have h := at06_loop s0 s1 s2 s3 s4 s5 s6 s7 s8 s9 s10 s11 s12 s13 s14 s15 x (usedZ s0 s1 s2 s3 s4 s5 s6 s7 s8 s9 s10 s11 s12 s13 s14 s15 av).2.1 (usedZ s0 s1 s2 s3 s4 s5 s6 s7 s8 s9 s10 s11 s12 s13 s14 s15 av).1.toNat (by omega) _ 60 0 (by omega) rfl (by omega) rfl
    rw [nat_of (by omega)] at h
    exact h
  · rw [if_neg he, if_neg he]
theorem UsedTells (av : Int) (s0 : Int) (s1 : Int) (s2 : Int) (s3 : Int) (s4 : Bool) (s5 : Int) (s6 : Int) (s7 : Int) (s8 : Bool) (s9 : Int) (s10 : Int) (s11 : Bool) (s12 : Int) (s13 : Bool) (s14 : Int) (s15 : Int) (i x : Int) (w : World) (_ : (Lit.int .i64 av).wf = true) (_ : (Lit.int .i64 i).wf = true) (_ : (Lit.int .i64 x).wf = true) (hG : GOK w) : Calls Tryd.prog 8 #[.int .i64 av, .agg (stV s0 s1 s2 s3 s4 s5 s6 s7 s8 s9 s10 s11 s12 s13 s14 s15), .int .i64 i, .int .i64 x] w fun e w' => e = .returned (.bool true) ∧ Below w.heap.size w w' := by
  obtain ⟨⟨a, f⟩, hl⟩ : ∃ r, used_Left.f av s0 s1 s2 s3 s4 s5 s6 s7 s8 s9 s10 s11 s12 s13 s14 s15 i = some r := ⟨_, rfl⟩
  obtain ⟨⟨l, m⟩, hs⟩ : ∃ r, used_Slack.f av s0 s1 s2 s3 s4 s5 s6 s7 s8 s9 s10 s11 s12 s13 s14 s15 = some r := ⟨_, rfl⟩
  obtain ⟨⟨p, q, r⟩, ht⟩ : ∃ r, used_At.f av s0 s1 s2 s3 s4 s5 s6 s7 s8 s9 s10 s11 s12 s13 s14 s15 x = some r := ⟨_, rfl⟩
  exact UsedTells_walk (stV s0 s1 s2 s3 s4 s5 s6 s7 s8 s9 s10 s11 s12 s13 s14 s15) av i x _ _ _ a f l m p r q w rfl (fun w' hG' => used_Used.calls av s0 s1 s2 s3 s4 s5 s6 s7 s8 s9 s10 s11 s12 s13 s14 s15 _ _ _ w' rfl hG')
    (fun w' _ => gutterref06_Used.calls 60 av s0 s1 s2 s3 s4 s5 s6 s7 s8 s9 s10 s11 s12 s13 s14 s15 _ _ _ w' (used06 58 s0 s1 s2 s3 s4 s5 s6 s7 s8 s9 s10 s11 s12 s13 s14 s15 av))
    (fun w' hG' => used_Left.calls av s0 s1 s2 s3 s4 s5 s6 s7 s8 s9 s10 s11 s12 s13 s14 s15 i _ _ w' hl hG') (fun w' _ => gutterref06_Left.calls 60 av s0 s1 s2 s3 s4 s5 s6 s7 s8 s9 s10 s11 s12 s13 s14 s15 i _ _ w' ((left06 58 s0 s1 s2 s3 s4 s5 s6 s7 s8 s9 s10 s11 s12 s13 s14 s15 av i).trans hl))
    (fun w' hG' => used_Slack.calls av s0 s1 s2 s3 s4 s5 s6 s7 s8 s9 s10 s11 s12 s13 s14 s15 _ _ w' hs hG') (fun w' _ => gutterref06_Slack.calls 60 av s0 s1 s2 s3 s4 s5 s6 s7 s8 s9 s10 s11 s12 s13 s14 s15 _ _ w' ((slack06 58 s0 s1 s2 s3 s4 s5 s6 s7 s8 s9 s10 s11 s12 s13 s14 s15 av).trans hs))
    (fun w' hG' => used_At.calls av s0 s1 s2 s3 s4 s5 s6 s7 s8 s9 s10 s11 s12 s13 s14 s15 x _ _ _ w' ht hG') (fun w' _ => gutterref06_At.calls 60 av s0 s1 s2 s3 s4 s5 s6 s7 s8 s9 s10 s11 s12 s13 s14 s15 x _ _ _ w' ((at06 s0 s1 s2 s3 s4 s5 s6 s7 s8 s9 s10 s11 s12 s13 s14 s15 av x).trans ht)) hG
end Go.Proofs.YtjaoaakljcnmeaaDoor.G
