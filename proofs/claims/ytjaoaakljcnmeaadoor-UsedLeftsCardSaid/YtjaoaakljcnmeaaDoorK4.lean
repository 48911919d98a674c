/- Chapter 6: UsedWide, UsedSlack, UsedLefts: what they want, plainly; and the laws. Written by mkK4.py. -/
import Derived.Test.YtjaoaakljcnmeaaDoorK1
import Derived.Test.YtjaoaakljcnmeaaDoorH1
namespace Go.Proofs.YtjaoaakljcnmeaaDoor.G
open Go.RowKit

theorem many_wide {s0 s1 s2 av n wd : Int} (h : Col s0 s1 s2 av n wd) : (s0 = 0 ∨ s0 ≠ 0 ∧ n ≤ s0) ∧ ((s1 = 0 ∧ n = s0) ∨ (0 < s1 ∧ n = 1) ∨ (0 < s1 ∧ n ≠ 1 ∧ s1 ≤ wd)) := by
  have g0 := h.g0
  have g1 := h.g1
  have g2 := h.g2
  have ga := h.ga
  have hn := h.gn
  have en := h.en
  have hw := wide_way hn g2 ga
  rw [← h.ew] at hw
  unfold manyZ at en
  by_cases h1 : s1 = 0
  · rw [if_pos h1] at en
    exact ⟨by omega, .inl ⟨h1, en⟩⟩
  · rw [if_neg h1] at en
    have hf : n ≤ fitZ av s1 s2 ∧ (s0 = 0 ∨ n ≤ s0) := by
      by_cases h0 : s0 = 0 ∨ fitZ av s1 s2 < s0
      · rw [if_pos h0] at en; omega
      · rw [if_neg h0] at en; omega
    refine ⟨by omega, ?_⟩
    by_cases hn1 : n = 1
    · exact .inr (.inl ⟨by omega, hn1⟩)
    · refine .inr (.inr ⟨by omega, hn1, ?_⟩)
      have hq : n ≤ (av + s2) / (s1 + s2) := by
        have hf1 := hf.1
        unfold fitZ at hf1
        generalize (av + s2) / (s1 + s2) = q at *
        omega
      rw [Int.le_ediv_iff_mul_le (by omega)] at hq
      have e1 : n * (s1 + s2) = n * s1 + n * s2 := Int.mul_add _ _ _
      have e2 : (n - 1) * s2 = n * s2 - s2 := by rw [Int.sub_mul, Int.one_mul]
      have p1 : 1 ≤ n * s1 := by
        have := Int.mul_le_mul (a := 1) (b := 1) (c := n) (d := s1) hn.1 (by omega) (by omega) (by omega)
        omega
      rcases hw with ⟨w1, w2, w3, w4, w5⟩ | ⟨w1, w2⟩
      · have l : n * s1 < n * (wd + 1) := by
          rw [Int.mul_add, Int.mul_one]
          omega
        have := Int.lt_of_mul_lt_mul_left l (by omega)
        omega
      · omega
theorem UsedWide (av : Int) (s0 : Int) (s1 : Int) (s2 : Int) (s3 : Int) (s4 : Bool) (s5 : Int) (s6 : Int) (s7 : Int) (s8 : Bool) (s9 : Int) (s10 : Int) (s11 : Bool) (s12 : Int) (s13 : Bool) (s14 : Int) (s15 : Int) (w : World) (_ : (Lit.int .i64 av).wf = true) (hG : GOK w) : Calls Tryd.prog 4 #[.int .i64 av, .agg (stV s0 s1 s2 s3 s4 s5 s6 s7 s8 s9 s10 s11 s12 s13 s14 s15)] w fun x w' => x = .returned (.bool true) ∧ Below w.heap.size w w' :=
  UsedWide_walk (stV s0 s1 s2 s3 s4 s5 s6 s7 s8 s9 s10 s11 s12 s13 s14 s15) av (usedZ s0 s1 s2 s3 s4 s5 s6 s7 s8 s9 s10 s11 s12 s13 s14 s15 av).1 (usedZ s0 s1 s2 s3 s4 s5 s6 s7 s8 s9 s10 s11 s12 s13 s14 s15 av).2.1 (usedZ s0 s1 s2 s3 s4 s5 s6 s7 s8 s9 s10 s11 s12 s13 s14 s15 av).2.2 s0 s1 w rfl rfl rfl (fun w' hG' => used_Used.calls av s0 s1 s2 s3 s4 s5 s6 s7 s8 s9 s10 s11 s12 s13 s14 s15 _ _ _ w' rfl hG')
    (fun h => many_wide (usedZ_ok s0 s1 s2 s3 s4 s5 s6 s7 s8 s9 s10 s11 s12 s13 s14 s15 av h).2.2.2) hG
theorem slack_in {s0 s1 s2 av n wd : Int} (h : Col s0 s1 s2 av n wd) : slackZ wd s2 av (leftsL wd s2 n.toNat) < n ∧ (0 ≤ slackZ wd s2 av (leftsL wd s2 n.toNat) ∨ slackZ wd s2 av (leftsL wd s2 n.toNat) < 0 ∧ wd = 0) := by
  have hn := h.gn
  have hw := wide_way hn h.g2 h.ga
  rw [← h.ew] at hw
  obtain ⟨k, hk⟩ : ∃ k : Nat, n.toNat = k + 1 := ⟨n.toNat - 1, by omega⟩
  have e := slack_eq h.wd_in h.g2 h.ga k (by omega)
  rw [hk, e]
  have e1 : ((k + 1 : Nat) : Int) = n := by omega
  have e2 : (k : Int) = n - 1 := by omega
  rw [e1, e2]
  have ga := h.ga
  rcases hw with ⟨w1, w2, w3, w4, w5⟩ | ⟨w1, w2⟩
  · generalize n * wd = p at *
    generalize (n - 1) * s2 = q at *
    omega
  · rw [w2, Int.mul_zero]
    generalize (n - 1) * s2 = q at *
    omega
theorem UsedSlack (av : Int) (s0 : Int) (s1 : Int) (s2 : Int) (s3 : Int) (s4 : Bool) (s5 : Int) (s6 : Int) (s7 : Int) (s8 : Bool) (s9 : Int) (s10 : Int) (s11 : Bool) (s12 : Int) (s13 : Bool) (s14 : Int) (s15 : Int) (w : World) (_ : (Lit.int .i64 av).wf = true) (hG : GOK w) : Calls Tryd.prog 9 #[.int .i64 av, .agg (stV s0 s1 s2 s3 s4 s5 s6 s7 s8 s9 s10 s11 s12 s13 s14 s15)] w fun x w' => x = .returned (.bool true) ∧ Below w.heap.size w w' := by
  by_cases he : (usedZ s0 s1 s2 s3 s4 s5 s6 s7 s8 s9 s10 s11 s12 s13 s14 s15 av).2.2 = 0
  · have hc := (usedZ_ok s0 s1 s2 s3 s4 s5 s6 s7 s8 s9 s10 s11 s12 s13 s14 s15 av he).2.2.2
    have hs := slack_in hc
    have hv : used_Slack.f av s0 s1 s2 s3 s4 s5 s6 s7 s8 s9 s10 s11 s12 s13 s14 s15 = some (slackZ (usedZ s0 s1 s2 s3 s4 s5 s6 s7 s8 s9 s10 s11 s12 s13 s14 s15 av).2.1 s2 av (leftsL (usedZ s0 s1 s2 s3 s4 s5 s6 s7 s8 s9 s10 s11 s12 s13 s14 s15 av).2.1 s2 (usedZ s0 s1 s2 s3 s4 s5 s6 s7 s8 s9 s10 s11 s12 s13 s14 s15 av).1.toNat), 0) := by rw [used_Slack.f, if_pos he]
    exact UsedSlack_walk (stV s0 s1 s2 s3 s4 s5 s6 s7 s8 s9 s10 s11 s12 s13 s14 s15) av (usedZ s0 s1 s2 s3 s4 s5 s6 s7 s8 s9 s10 s11 s12 s13 s14 s15 av).1 (usedZ s0 s1 s2 s3 s4 s5 s6 s7 s8 s9 s10 s11 s12 s13 s14 s15 av).2.1 (usedZ s0 s1 s2 s3 s4 s5 s6 s7 s8 s9 s10 s11 s12 s13 s14 s15 av).2.2 _ _ w rfl (fun w' hG' => used_Used.calls av s0 s1 s2 s3 s4 s5 s6 s7 s8 s9 s10 s11 s12 s13 s14 s15 _ _ _ w' rfl hG') (fun w' hG' => used_Slack.calls av s0 s1 s2 s3 s4 s5 s6 s7 s8 s9 s10 s11 s12 s13 s14 s15 _ _ w' hv hG')
      (fun h => absurd he h) (fun _ => ⟨rfl, hc.gn.1, hc.gn.2, hc.wd_in.1, hs.1, hs.2⟩) hG
  · have hb := usedZ_bad s0 s1 s2 s3 s4 s5 s6 s7 s8 s9 s10 s11 s12 s13 s14 s15 av he
    have hv : used_Slack.f av s0 s1 s2 s3 s4 s5 s6 s7 s8 s9 s10 s11 s12 s13 s14 s15 = some (0, (usedZ s0 s1 s2 s3 s4 s5 s6 s7 s8 s9 s10 s11 s12 s13 s14 s15 av).2.2) := by rw [used_Slack.f, if_neg he]
    exact UsedSlack_walk (stV s0 s1 s2 s3 s4 s5 s6 s7 s8 s9 s10 s11 s12 s13 s14 s15) av (usedZ s0 s1 s2 s3 s4 s5 s6 s7 s8 s9 s10 s11 s12 s13 s14 s15 av).1 (usedZ s0 s1 s2 s3 s4 s5 s6 s7 s8 s9 s10 s11 s12 s13 s14 s15 av).2.1 (usedZ s0 s1 s2 s3 s4 s5 s6 s7 s8 s9 s10 s11 s12 s13 s14 s15 av).2.2 _ _ w rfl (fun w' hG' => used_Used.calls av s0 s1 s2 s3 s4 s5 s6 s7 s8 s9 s10 s11 s12 s13 s14 s15 _ _ _ w' rfl hG') (fun w' hG' => used_Slack.calls av s0 s1 s2 s3 s4 s5 s6 s7 s8 s9 s10 s11 s12 s13 s14 s15 _ _ w' hv hG')
      (fun _ => ⟨rfl, hb.1, hb.2⟩) (fun h => absurd h he) hG
theorem UsedLefts (av : Int) (s0 : Int) (s1 : Int) (s2 : Int) (s3 : Int) (s4 : Bool) (s5 : Int) (s6 : Int) (s7 : Int) (s8 : Bool) (s9 : Int) (s10 : Int) (s11 : Bool) (s12 : Int) (s13 : Bool) (s14 : Int) (s15 : Int) (i : Int) (w : World) (_ : (Lit.int .i64 av).wf = true) (_ : (Lit.int .i64 i).wf = true) (hG : GOK w) : Calls Tryd.prog 5 #[.int .i64 av, .agg (stV s0 s1 s2 s3 s4 s5 s6 s7 s8 s9 s10 s11 s12 s13 s14 s15), .int .i64 i] w fun x w' => x = .returned (.bool true) ∧ Below w.heap.size w w' := by
  by_cases he : (usedZ s0 s1 s2 s3 s4 s5 s6 s7 s8 s9 s10 s11 s12 s13 s14 s15 av).2.2 = 0
  · have hv : used_Left.f av s0 s1 s2 s3 s4 s5 s6 s7 s8 s9 s10 s11 s12 s13 s14 s15 i = some (leftZ (usedZ s0 s1 s2 s3 s4 s5 s6 s7 s8 s9 s10 s11 s12 s13 s14 s15 av).2.1 s2 i) := by rw [used_Left.f, if_pos he]
    have hw : used_Left.f av s0 s1 s2 s3 s4 s5 s6 s7 s8 s9 s10 s11 s12 s13 s14 s15 0 = some (leftZ (usedZ s0 s1 s2 s3 s4 s5 s6 s7 s8 s9 s10 s11 s12 s13 s14 s15 av).2.1 s2 0) := by rw [used_Left.f, if_pos he]
    have e0 : leftZ (usedZ s0 s1 s2 s3 s4 s5 s6 s7 s8 s9 s10 s11 s12 s13 s14 s15 av).2.1 s2 0 = (0, 0) := by
      rw [leftZ, if_neg (by omega), Int.zero_mul, i64_in (by omega) (by omega)]
    rw [e0] at hw
    obtain ⟨⟨a, f⟩, hl⟩ : ∃ r, leftZ (usedZ s0 s1 s2 s3 s4 s5 s6 s7 s8 s9 s10 s11 s12 s13 s14 s15 av).2.1 s2 i = r := ⟨_, rfl⟩
    rw [hl] at hv
    refine UsedLefts_walk (stV s0 s1 s2 s3 s4 s5 s6 s7 s8 s9 s10 s11 s12 s13 s14 s15) av i (usedZ s0 s1 s2 s3 s4 s5 s6 s7 s8 s9 s10 s11 s12 s13 s14 s15 av).1 (usedZ s0 s1 s2 s3 s4 s5 s6 s7 s8 s9 s10 s11 s12 s13 s14 s15 av).2.1 (usedZ s0 s1 s2 s3 s4 s5 s6 s7 s8 s9 s10 s11 s12 s13 s14 s15 av).2.2 a f 0 0 s2 w rfl rfl (fun w' hG' => used_Used.calls av s0 s1 s2 s3 s4 s5 s6 s7 s8 s9 s10 s11 s12 s13 s14 s15 _ _ _ w' rfl hG') (fun w' hG' => used_Left.calls av s0 s1 s2 s3 s4 s5 s6 s7 s8 s9 s10 s11 s12 s13 s14 s15 i _ _ w' hv hG') (fun w' hG' => used_Left.calls av s0 s1 s2 s3 s4 s5 s6 s7 s8 s9 s10 s11 s12 s13 s14 s15 0 _ _ w' hw hG')
      (fun h => absurd he h) (fun _ => ?_) hG
    by_cases h1 : i < 0
    · rw [leftZ, if_pos (.inl h1), Prod.mk.injEq] at hl; exact .inl ⟨h1, hl.2.symm⟩
    · by_cases h2 : 1000 < i
      · rw [leftZ, if_pos (.inr h2), Prod.mk.injEq] at hl; exact .inr (.inl ⟨h2, hl.2.symm⟩)
      · rw [leftZ, if_neg (by omega), Prod.mk.injEq] at hl; exact .inr (.inr ⟨by omega, by omega, hl.2.symm, rfl, rfl, hl.1.symm⟩)
  · have hv : used_Left.f av s0 s1 s2 s3 s4 s5 s6 s7 s8 s9 s10 s11 s12 s13 s14 s15 i = some (0, (usedZ s0 s1 s2 s3 s4 s5 s6 s7 s8 s9 s10 s11 s12 s13 s14 s15 av).2.2) := by rw [used_Left.f, if_neg he]
    have hw : used_Left.f av s0 s1 s2 s3 s4 s5 s6 s7 s8 s9 s10 s11 s12 s13 s14 s15 0 = some (0, (usedZ s0 s1 s2 s3 s4 s5 s6 s7 s8 s9 s10 s11 s12 s13 s14 s15 av).2.2) := by rw [used_Left.f, if_neg he]
    exact UsedLefts_walk (stV s0 s1 s2 s3 s4 s5 s6 s7 s8 s9 s10 s11 s12 s13 s14 s15) av i (usedZ s0 s1 s2 s3 s4 s5 s6 s7 s8 s9 s10 s11 s12 s13 s14 s15 av).1 (usedZ s0 s1 s2 s3 s4 s5 s6 s7 s8 s9 s10 s11 s12 s13 s14 s15 av).2.1 (usedZ s0 s1 s2 s3 s4 s5 s6 s7 s8 s9 s10 s11 s12 s13 s14 s15 av).2.2 _ _ _ _ s2 w rfl rfl (fun w' hG' => used_Used.calls av s0 s1 s2 s3 s4 s5 s6 s7 s8 s9 s10 s11 s12 s13 s14 s15 _ _ _ w' rfl hG') (fun w' hG' => used_Left.calls av s0 s1 s2 s3 s4 s5 s6 s7 s8 s9 s10 s11 s12 s13 s14 s15 i _ _ w' hv hG') (fun w' hG' => used_Left.calls av s0 s1 s2 s3 s4 s5 s6 s7 s8 s9 s10 s11 s12 s13 s14 s15 0 _ _ w' hw hG')
      (fun _ => ⟨rfl, rfl⟩) (fun h => absurd h he) hG
end Go.Proofs.YtjaoaakljcnmeaaDoor.G
