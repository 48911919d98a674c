/- Chapter 9, plain: ParaBest. -/
import Derived.Test.YtfamkadpncbmlaaDoorH1
import Derived.Test.YtfamkadpncbmlaaDoorG11
namespace Go.Proofs.YtfamkadpncbmlaaDoor.G
open Go.RowKit Go.Proofs.YtfamkadpncbmlaaDoorW.PrintWords Go.Proofs.YtfamkadpncbmlaaDoorW.PrintLast Go.Proofs.YtfamkadpncbmlaaDoorW.PrintMore

theorem bestL_mono (l : List Int) (hs : l.Pairwise (· < ·)) (hp : ∀ x ∈ l, 0 ≤ x) (a b : Int) (h : a ≤ b) : bestL a l ≤ bestL b l := by
  induction l using snoc_ind with
  | h0 => exact Int.le_refl _
  | h1 l x ih =>
    rw [bestL_snoc, bestL_snoc]
    rw [List.pairwise_append] at hs
    by_cases h1 : x ≤ a
    · rw [if_pos h1, if_pos (by omega)]; omega
    · rw [if_neg h1]
      split
      · rcases bestL_mem a l with h2 | ⟨h2, _⟩
        · have := hp x (by simp)
          omega
        · have := hs.2.2 _ h2 x (by simp)
          omega
      · exact ih hs.1 (fun y hy => hp y (by simp [hy]))
theorem upTo_sorted (n o d : Int) (k : Nat) : (upTo n o d k).Pairwise (· < ·) := by
  induction k with
  | zero => exact List.Pairwise.nil
  | succ k ih =>
    rw [upTo_succ, List.pairwise_append]
    refine ⟨ih, by split <;> simp, ?_⟩
    intro a ha b hb
    have := mem_upTo ha
    split at hb
    · simp at hb; omega
    · simp at hb
theorem bestZ_mono (n o d a b : Int) (hn : 0 ≤ n) (h : a ≤ b) : bestZ n o d a ≤ bestZ n o d b ∨ n ≤ a := by
  unfold bestZ
  by_cases h1 : n ≤ a
  · exact .inr h1
  · left
    rw [if_neg h1]
    split
    · rcases bestL_mem a (upTo n o d (n.toNat - 1)) with h2 | ⟨h2, _⟩
      · rw [h2]
        omega
      · have := mem_upTo h2
        omega
    · exact bestL_mono _ (upTo_sorted _ _ _ _) (fun x hx => by have := mem_upTo hx; omega) a b h

theorem ParaBest : gutterlaw09_ParaBest.Pure := by
  intro n o d r s _ _ _ _ _
  refine ⟨2000, ?_⟩
  unfold gutterlaw09_ParaBest.f
  rw [shown_k 2000 (by omega), Option.bind_some]
  unfold para_Best.f
  simp only [Option.bind_some]
  by_cases h1 : chkB n o d [r] = true
  · have hn := chk_n h1
    have hr0 := chk_r h1
    have hi : isB n o d = true := by simp only [chkB, Bool.and_eq_true] at h1; exact h1.1
    have hz := bestZ_range (n := n) (o := o) (d := d) (r := r) hn.1
    rw [if_pos h1]
    dsimp only
    rw [if_pos rfl]
    unfold para_May.f
    rw [if_pos hi, Option.bind_some]
    dsimp only
    rw [if_pos rfl, if_pos trivial]
    have hle : bestZ n o d r ≤ r := by
      unfold bestZ
      split
      · assumption
      · rcases bestL_mem r (upTo n o d (n.toNat - 1)) with h2 | ⟨_, h2⟩
        · omega
        · exact h2
    have hin : bestZ n o d r = n ∨ bestZ n o d r = 0 ∨ mayB n o d (bestZ n o d r) = true := by
      unfold bestZ
      split
      · exact .inl rfl
      · rcases bestL_mem r (upTo n o d (n.toNat - 1)) with h2 | ⟨h2, _⟩
        · exact .inr (.inl h2)
        · exact .inr (.inr (mem_upTo h2).2.2)
    have htail : (if (if chkB n o d [s] = true then (bestZ n o d s, (0 : Int)) else (0, 90)).2 = 0 then (if s > r then some true else some (decide ((if chkB n o d [s] = true then (bestZ n o d s, (0 : Int)) else (0, 90)).1 ≤ bestZ n o d r))) else some true) = some true := by
      by_cases h2 : chkB n o d [s] = true
      · rw [if_pos h2]
        dsimp only
        rw [if_pos rfl]
        by_cases h3 : s > r
        · rw [if_pos h3]
        · rw [if_neg h3]
          congr 1
          refine decide_eq_true ?_
          rcases bestZ_mono n o d s r hn.1 (by omega) with h4 | h4
          · exact h4
          · have h5 : bestZ n o d r = n := by unfold bestZ; rw [if_pos (by omega)]
            have h6 := bestZ_range (n := n) (o := o) (d := d) (r := s) hn.1
            omega
      · rw [if_neg h2]
        rfl
    rw [if_pos hle]
    rcases hin with h2 | h2 | h2
    · rw [if_pos h2]; exact htail
    · by_cases h3 : bestZ n o d r = n
      · rw [if_pos h3]; exact htail
      · rw [if_neg h3, if_pos h2]; exact htail
    · by_cases h3 : bestZ n o d r = n
      · rw [if_pos h3]; exact htail
      · rw [if_neg h3]
        by_cases h4 : bestZ n o d r = 0
        · rw [if_pos h4]; exact htail
        · rw [if_neg h4, if_pos h2]; exact htail
  · rw [if_neg h1]
    simp
end Go.Proofs.YtfamkadpncbmlaaDoor.G
