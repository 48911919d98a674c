/- Chapter 7, plain: WordSums. -/
import Derived.Test.YtnfbfachabdahaaH3
import Derived.Test.YtnfbfachabdahaaG16
namespace Go.Proofs.Ytnfbfachabdahaa.G
open Go.RowKit Go.Shelf Go.Proofs.YtnfbfachabdahaaW.PrintWords Go.Proofs.YtnfbfachabdahaaW.PrintLast Go.Proofs.YtnfbfachabdahaaW.PrintMore

def sumS : List S34 → Int
  | [] => 0
  | x :: l => x.f2 + x.f1 + sumS l
theorem space_le (l : List UInt8) : spaceL l ≤ widthL (aheadL l) := by
  unfold spaceL
  split
  · rename_i h
    obtain ⟨t, ht⟩ := List.isSuffixOf_iff_suffix.1 h
    rw [← ht, widthL_app, widthL_one]
    have := (widthL_in t).1
    have : wideN (32 : UInt8).toNat = 256 := by decide
    omega
  · exact (widthL_in _).1
theorem sum_words (l : List UInt8) : sumS (wordsL l) ≤ widthL l := by
  refine words_ind (Q := fun l ws => sumS ws ≤ widthL l) (fun l _ => (widthL_in l).1) (fun l _ ih => ?_) l
  have h1 := congrArg widthL (ahead_app l)
  have h2 := congrArg widthL (tok_app l)
  rw [widthL_app] at h1 h2
  have h3 := space_le l
  show spaceL l + widthL (tokL l) + sumS (wordsL (restL l)) ≤ widthL l
  omega
theorem ends_ge : ∀ (l : List S34) (n : Int), ∀ y ∈ l, ∃ e ∈ endsL n l, y.f1 ≤ e
  | [], _, y, h => by cases h
  | x :: l, n, y, h => by
    rcases List.mem_cons.1 h with rfl | h
    · refine ⟨stepE n y, by simp [endsL], ?_⟩
      unfold stepE mx
      split
      · omega
      · split <;> omega
    · obtain ⟨e, he, h1⟩ := ends_ge l (stepE n x) y h
      exact ⟨e, by simp [endsL, he], h1⟩
theorem ends_le : ∀ (l : List S34) (n : Int), (∀ x ∈ l, smallS x) → 0 ≤ n → ∀ e ∈ endsL n l, e ≤ n + sumS l
  | [], _, _, _, e, h => by cases h
  | x :: l, n, hs, hn, e, h => by
    have hx := hs x (by simp)
    obtain ⟨h1, h2⟩ := hx
    have hp := stepE_in (hs x (by simp)) hn
    have hq : stepE n x ≤ n + x.f2 + x.f1 := by
      unfold stepE mx
      split
      · omega
      · split <;> omega
    have hsum : sumS (x :: l) = x.f2 + x.f1 + sumS l := rfl
    have hpos : ∀ m : List S34, (∀ x ∈ m, smallS x) → 0 ≤ sumS m := by
      intro m
      induction m with
      | nil => intro _; exact Int.le_refl _
      | cons y m ih =>
        intro hm
        have := ih (fun z hz => hm z (by simp [hz]))
        obtain ⟨a, b⟩ := hm y (by simp)
        show 0 ≤ y.f2 + y.f1 + sumS m
        omega
    have hl := hpos l (fun z hz => hs z (by simp [hz]))
    rcases List.mem_cons.1 h with rfl | h
    · omega
    · have := ends_le l (stepE n x) (fun z hz => hs z (by simp [hz])) hp.1 e h
      omega
/-- Of a text's words: the widest, all without breaks, the text. -/
theorem sums_ok (l : List UInt8) (hl : l.length ≤ 400) : 0 ≤ leastL (headL (wordsL l)) ∧ leastL (headL (wordsL l)) ≤ mostL (headL (wordsL l)) ∧ mostL (headL (wordsL l)) ≤ widthL l := by
  have hr := words_right l hl
  have hok := words_ok1 l
  have hsum := sum_words l
  have hs1 := words_ok l
  have hw := (widthL_in l).1
  cases he : wordsL l with
  | nil =>
    show (0 : Int) ≤ 0 ∧ (0 : Int) ≤ 0 ∧ (0 : Int) ≤ widthL l
    omega
  | cons x m =>
    rw [he] at hr hok hsum hs1
    have hsm : ∀ y ∈ m, smallS y := fun y hy => by
      have h := wordOK_ok (hs1 y (by simp [hy])) hl
      exact okB_small h.1 h.2
    have hx := wordOK_ok (hok _ (List.mem_cons_self)) hl
    have hx := (okB_small hx.1 hx.2).1
    have hx2 : smallS x := by
      have h := wordOK_ok (hs1 x (by simp)) hl
      exact okB_small h.1 h.2
    have hsum2 : sumS (x :: m) = x.f2 + x.f1 + sumS m := rfl
    have e1 : leastL (headL (x :: m)) = mxL x.f1 (x.f1 :: m.map S34.f1) := rfl
    have e2 : mostL (headL (x :: m)) = mxL x.f1 (x.f1 :: endsL x.f1 m) := by
      show (if rightL (headL (x :: m)) then mxL x.f1 (x.f1 :: endsL x.f1 m) else 0) = _
      rw [if_pos hr]
    rw [e1, e2]
    have hx0 : 0 ≤ x.f1 := hx.1
    refine ⟨Int.le_trans hx0 mxL_self, (mxL_le _ _ _).2 ⟨mxL_self, fun y hy => ?_⟩, (mxL_le _ _ _).2 ⟨?_, fun y hy => ?_⟩⟩
    · rcases List.mem_cons.1 hy with rfl | hy
      · exact mxL_self
      · obtain ⟨z, hz, rfl⟩ := List.mem_map.1 hy
        obtain ⟨e, he, h1⟩ := ends_ge m x.f1 z hz
        exact Int.le_trans h1 (mxL_mem (by simp [he]))
    · have h2 := hx2.2
      have hp : 0 ≤ sumS m := by
        cases m with
        | nil => exact Int.le_refl _
        | cons y m =>
          obtain ⟨e, he, h1⟩ := ends_ge (y :: m) 0 y (by simp)
          have h3 := ends_le (y :: m) 0 hsm (Int.le_refl _) e he
          have := (hsm y (by simp)).1
          omega
      omega
    · have h2 := hx2.2
      rcases List.mem_cons.1 hy with rfl | hy
      · have hp : 0 ≤ sumS m := by
          cases m with
          | nil => exact Int.le_refl _
          | cons y m =>
            obtain ⟨e, he, h1⟩ := ends_ge (y :: m) 0 y (by simp)
            have h3 := ends_le (y :: m) 0 hsm (Int.le_refl _) e he
            have := (hsm y (by simp)).1
            omega
        omega
      · have := ends_le m x.f1 hsm hx0 y hy
        omega
theorem cutL_len (a : ByteArray) : (cutL a).data.toList.length ≤ 410 := by
  rw [Array.length_toList]
  exact cutL_size a
theorem WordSums : gutterlaw07_WordSums.Pure := by
  intro a0 a1 _ _
  obtain ⟨k, hk⟩ : ∃ k, 2000 ≤ k := ⟨2000, Nat.le_refl _⟩
  refine ⟨k, ?_⟩
  have h0 := cutL_size a0
  have h1 := cutL_size a1
  have hz : (cutL a0 ++ cutL a1).size ≤ 1000000 := by rw [ByteArray.size_append]; omega
  have hd : (cutL a0 ++ cutL a1).data.toList = (cutL a0).data.toList ++ (cutL a1).data.toList := by simp
  have hl := wordsR_len (cutL a0)
  have hi0 := widthL_in (cutL a0).data.toList
  have hi1 := widthL_in (cutL a1).data.toList
  have hc0 := cutL_len a0
  have hc1 := cutL_len a1
  unfold gutterlaw07_WordSums.f
  rw [shown_k k (by omega), Option.bind_some, cut_is, Option.bind_some, cut_is, Option.bind_some, words_is _ (cutL_in a0), Option.bind_some, if_pos (by omega), width_is _ hz, Option.bind_some, width_is _ (cutL_in a0), Option.bind_some, width_is _ (cutL_in a1), Option.bind_some,
    hd, widthL_app, wrap_in (by omega) (by omega), if_pos rfl, if_pos rfl]
  by_cases h4 : (cutL a0).size ≤ 400
  · have hle : (cutL a0).data.toList.length ≤ 400 := by rw [Array.length_toList]; exact h4
    have hwf := words_wf _ hle
    have hr : wordsR (cutL a0) = (headL (wordsL (cutL a0).data.toList), 0) := by unfold wordsR; rw [if_pos h4]
    have hlen : (headL (wordsL (cutL a0).data.toList)).length ≤ 400 := by rw [hr] at hl; exact hl
    obtain ⟨s1, s2, s3⟩ := sums_ok _ hle
    rw [hr]
    dsimp only
    rw [if_pos rfl, Least_is _ (by omega) k (by omega), Option.bind_some, Most_is _ (by omega) hwf k (by omega), Option.bind_some, if_pos s2, Option.bind_some, if_pos s1, Option.bind_some, Option.bind_some, decide_eq_true s3]
  · have hr : wordsR (cutL a0) = ([], 70) := by unfold wordsR; rw [if_neg h4]
    rw [hr, if_neg (by decide)]
end Go.Proofs.Ytnfbfachabdahaa.G
