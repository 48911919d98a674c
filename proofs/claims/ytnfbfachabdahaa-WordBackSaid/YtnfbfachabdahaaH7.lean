/- Chapter 7, plain: WordBack. -/
import Derived.Test.YtnfbfachabdahaaH6
import Derived.Test.YtnfbfachabdahaaG17
namespace Go.Proofs.Ytnfbfachabdahaa.G
open Go.RowKit Go.Shelf Go.Proofs.YtnfbfachabdahaaW.PrintWords Go.Proofs.YtnfbfachabdahaaW.PrintLast Go.Proofs.YtnfbfachabdahaaW.PrintMore

/-- What was taken is taken again, where what is behind it does not go on with it. -/
theorem runW_again : ∀ (l : List UInt8) (s : UInt8 × Bool) (T : List UInt8), (∀ c r, T = c :: r → stW (aftS s (runW s l).1) c = none) → runW s ((runW s l).1 ++ T) = ((runW s l).1, T)
  | [], s, T, h => by
    cases T with
    | nil => rfl
    | cons c r => exact runW_none (h c r rfl)
  | d :: l, s, T, h => by
    cases hs : stW s d with
    | none =>
      rw [runW_none hs] at h ⊢
      cases T with
      | nil => rfl
      | cons c r => exact runW_none (h c r rfl)
    | some s' =>
      have hs' : s' = (d, true) := by
        unfold stW at hs
        split at hs
        · cases hs
        · exact (Option.some.inj hs).symm
      rw [runW_some hs] at h ⊢
      dsimp only at h ⊢
      rw [List.cons_append, runW_some hs]
      have ih := runW_again l s' T (fun c r e => by
        have := h c r e
        rw [aftS_cons, ← hs'] at this
        exact this)
      rw [ih]
/-- Gaps, a word, what is behind it: read again. -/
theorem read_again (l g T : List UInt8) (hg : ∀ c ∈ g, gapB c = true) (ht : (tokL l).isEmpty = false) (hT : ∀ c r, T = c :: r → stW (aftS (0, false) (tokL l)) c = none) :
    wordsL (g ++ (tokL l ++ T)) = ⟨bstr (tokL l), widthL (tokL l), spaceG g, Lib.countByte g 10⟩ :: wordsL T := by
  obtain ⟨c, t, hct⟩ : ∃ c t, tokL l = c :: t := by
    cases h : tokL l with
    | nil => rw [h] at ht; cases ht
    | cons c t => exact ⟨c, t, rfl⟩
  have hng : gapB c = false := runW_nogap (afterL l) (0, false) c (by show c ∈ tokL l; rw [hct]; simp)
  obtain ⟨h1, h2⟩ := gaps_ahead (g := g) (r := tokL l ++ T) hg (fun c' r e => by
    rw [hct, List.cons_append] at e
    injection e with e _
    rw [← e]
    exact hng)
  have hr : runW (0, false) (tokL l ++ T) = (tokL l, T) := runW_again (afterL l) (0, false) T hT
  have ht' : tokL (g ++ (tokL l ++ T)) = tokL l := by
    show (runW (0, false) (afterL (g ++ (tokL l ++ T)))).1 = tokL l
    rw [h2, hr]
  have hr' : restL (g ++ (tokL l ++ T)) = T := by
    show (runW (0, false) (afterL (g ++ (tokL l ++ T)))).2 = T
    rw [h2, hr]
  rw [wordsL_cons (by rw [ht']; exact ht), hr']
  unfold wordAt spaceL hardL spaceG
  rw [ht', h1]
/-- What is written ahead of a word. -/
def padG (n : Nat) (s : Int) : List UInt8 := List.replicate n 10 ++ (if s = 0 then [] else [32])
theorem padG_gap (n : Nat) (s : Int) : ∀ c ∈ padG n s, gapB c = true := by
  intro c hc
  unfold padG at hc
  rcases List.mem_append.1 hc with hc | hc
  · rw [List.eq_of_mem_replicate hc]; rfl
  · split at hc
    · cases hc
    · rw [List.mem_singleton.1 hc]; rfl
theorem padG_count (n : Nat) (s : Int) : Lib.countByte (padG n s) 10 = n := by
  unfold padG Lib.countByte
  rw [List.count_append, List.count_replicate_self]
  split <;> rfl
theorem padG_space (n : Nat) (s : Int) (hs : s = 0 ∨ s = 256) : spaceG (padG n s) = s := by
  unfold padG
  rcases hs with rfl | rfl
  · rw [if_pos rfl, List.append_nil]
    cases n with
    | zero => rfl
    | succ n => rw [List.replicate_succ', spaceG_snoc]; rfl
  · rw [if_neg (by decide), spaceG_snoc]
    rfl
theorem wordT_pad (x : S34) : wordT x = padG (padN x.f3) x.f2 ++ x.f0.data.toList := rfl
theorem padN_nat (n : Nat) (h : n ≤ 400) : padN (n : Int) = n := by unfold padN; omega
theorem hard_le (l : List UInt8) : Lib.countByte (aheadL l) 10 ≤ l.length := by
  have h1 := ahead_len l
  have h2 : Lib.countByte (aheadL l) 10 ≤ (aheadL l).length := List.count_le_length
  omega
theorem space_or (l : List UInt8) : spaceL l = 0 ∨ spaceL l = 256 := by
  unfold spaceL
  split
  · exact .inr rfl
  · exact .inl rfl
theorem textL_cons (x : S34) (l : List S34) : textL (x :: l) = wordT x ++ textL l := rfl
theorem wordT_at (l : List UInt8) (hl : l.length ≤ 400) : wordT (wordAt l) = padG (Lib.countByte (aheadL l) 10) (spaceL l) ++ tokL l := by
  rw [wordT_pad]
  show padG (padN (hardL l)) (spaceL l) ++ (bstr (tokL l)).data.toList = _
  unfold hardL
  rw [padN_nat _ (Nat.le_trans (hard_le l) hl)]
  rfl
/-- What is written of the words behind one does not go on with it. -/
theorem next_stop (l : List UInt8) (hl : l.length ≤ 400) : ∀ c r, textL (wordsL (restL l)) = c :: r → stW (aftS (0, false) (tokL l)) c = none := by
  intro c r hcr
  have hrl := rest_len l
  cases hr : (tokL (restL l)).isEmpty with
  | true => rw [wordsL_nil hr] at hcr; cases hcr
  | false =>
    rw [wordsL_cons hr, textL_cons, wordT_at _ (by omega)] at hcr
    unfold padG at hcr
    cases hn : Lib.countByte (aheadL (restL l)) 10 with
    | succ n =>
      rw [hn, List.replicate_succ] at hcr
      injection hcr with hc _
      rw [← hc]
      exact stW_gap rfl
    | zero =>
      rw [hn] at hcr
      rcases space_or (restL l) with h0 | h0
      · have ha := none_ahead (restL l) h0 (by unfold hardL; rw [hn]; rfl)
        rw [h0, if_pos rfl] at hcr
        have happ := ahead_app (restL l)
        have htok := tok_app (restL l)
        rw [ha, List.nil_append] at happ
        rw [happ] at htok
        cases hk : tokL (restL l) with
        | nil => rw [hk] at hr; cases hr
        | cons d t =>
          rw [hk] at hcr htok
          have hc : d = c := by
            simp at hcr
            exact hcr.1
          subst hc
          exact runW_stop (afterL l) (0, false) (tokL l) (t ++ restL (restL l)) d (Prod.ext rfl (show restL l = _ from htok.symm))
      · rw [h0, if_neg (by decide)] at hcr
        simp at hcr
        rw [← hcr.1]
        exact stW_gap rfl
theorem words_again (l : List UInt8) (hl : l.length ≤ 400) : wordsL (textL (wordsL l)) = wordsL l := by
  have H : l.length ≤ 400 → wordsL (textL (wordsL l)) = wordsL l := by
    refine words_ind (Q := fun l ws => l.length ≤ 400 → wordsL (textL ws) = ws) (fun _ _ _ => rfl) (fun l ht ih hl => ?_) l
    have hrl := rest_len l
    rw [textL_cons, wordT_at l hl, List.append_assoc, read_again l _ _ (padG_gap _ _) ht (next_stop l hl), ih (by omega), padG_space _ _ (space_or l), padG_count]
    rfl
  exact H hl
theorem head_again (l : List UInt8) (hl : l.length ≤ 400) : headL (wordsL (textL (headL (wordsL l)))) = headL (wordsL l) := by
  cases ht : (tokL l).isEmpty with
  | true => rw [wordsL_nil ht]; rfl
  | false =>
    have hrl := rest_len l
    have hw := words_again (restL l) (by omega)
    rw [wordsL_cons ht]
    show headL (wordsL (textL (⟨bstr (tokL l), widthL (tokL l), 0, hardL l⟩ :: wordsL (restL l)))) = ⟨bstr (tokL l), widthL (tokL l), 0, hardL l⟩ :: wordsL (restL l)
    have hT : wordT ⟨bstr (tokL l), widthL (tokL l), 0, hardL l⟩ = padG (Lib.countByte (aheadL l) 10) 0 ++ tokL l := by
      rw [wordT_pad]
      show padG (padN (hardL l)) 0 ++ (bstr (tokL l)).data.toList = _
      unfold hardL
      rw [padN_nat _ (Nat.le_trans (hard_le l) hl)]
      rfl
    rw [textL_cons, hT, List.append_assoc, read_again l _ _ (padG_gap _ _) ht (next_stop l hl), padG_space _ _ (.inl rfl), padG_count, hw]
    rfl
/-- What is written is no longer than what was read. -/
theorem pad_len (l : List UInt8) (s : Int) (hs : s = 0 ∨ s = spaceL l) : (padG (Lib.countByte (aheadL l) 10) s).length ≤ (aheadL l).length := by
  unfold padG
  rw [List.length_append, List.length_replicate]
  have h2 : Lib.countByte (aheadL l) 10 ≤ (aheadL l).length := List.count_le_length
  by_cases h0 : s = 0
  · rw [if_pos h0]; simp; exact h2
  · rw [if_neg h0]
    have hs' : spaceL l ≠ 0 := by
      rcases hs with h | h
      · exact absurd h h0
      · rw [← h]; exact h0
    unfold spaceL at hs'
    by_cases hq : Lib.hasSuffix (aheadL l) [32] = true
    · obtain ⟨u, hu⟩ := List.isSuffixOf_iff_suffix.1 hq
      have h3 : Lib.countByte (aheadL l) 10 ≤ u.length := by
        unfold Lib.countByte
        rw [← hu, List.count_append]
        have : List.count 10 ([32] : List UInt8) = 0 := by decide
        have h4 : List.count 10 u ≤ u.length := List.count_le_length
        omega
      have h5 := congrArg List.length hu
      rw [List.length_append] at h5
      simp at h5 ⊢
      omega
    · rw [if_neg hq] at hs'
      exact absurd rfl hs'
theorem text_len (l : List UInt8) (hl : l.length ≤ 400) : (textL (wordsL l)).length ≤ l.length := by
  have H : l.length ≤ 400 → (textL (wordsL l)).length ≤ l.length := by
    refine words_ind (Q := fun l ws => l.length ≤ 400 → (textL ws).length ≤ l.length) (fun _ _ _ => Nat.zero_le _) (fun l ht ih hl => ?_) l
    have hal := ahead_len l
    have hp := pad_len l (spaceL l) (.inr rfl)
    have := ih (by omega)
    rw [textL_cons, wordT_at l hl, List.length_append, List.length_append]
    omega
  exact H hl
theorem head_len (l : List UInt8) (hl : l.length ≤ 400) : (textL (headL (wordsL l))).length ≤ l.length := by
  cases ht : (tokL l).isEmpty with
  | true => rw [wordsL_nil ht]; exact Nat.zero_le _
  | false =>
    have hal := ahead_len l
    have hw := text_len (restL l) (by omega)
    have hp := pad_len l 0 (.inl rfl)
    rw [wordsL_cons ht]
    show (textL (⟨bstr (tokL l), widthL (tokL l), 0, hardL l⟩ :: wordsL (restL l))).length ≤ l.length
    have hT : wordT ⟨bstr (tokL l), widthL (tokL l), 0, hardL l⟩ = padG (Lib.countByte (aheadL l) 10) 0 ++ tokL l := by
      rw [wordT_pad]
      show padG (padN (hardL l)) 0 ++ (bstr (tokL l)).data.toList = _
      unfold hardL
      rw [padN_nat _ (Nat.le_trans (hard_le l) hl)]
      rfl
    rw [textL_cons, hT, List.length_append, List.length_append]
    omega
theorem WordBack : gutterlaw07_WordBack.Pure := by
  intro a0 _
  obtain ⟨k, hk⟩ : ∃ k, 2000 ≤ k := ⟨2000, Nat.le_refl _⟩
  refine ⟨k, ?_⟩
  have hl := wordsR_len (cutL a0)
  unfold gutterlaw07_WordBack.f
  rw [shown_k k (by omega), Option.bind_some, cut_is, Option.bind_some, words_is _ (cutL_in a0), Option.bind_some]
  by_cases h4 : (cutL a0).size ≤ 400
  · have hle : (cutL a0).data.toList.length ≤ 400 := by rw [Array.length_toList]; exact h4
    have hz : (cutL a0).data.toList.length = (cutL a0).size := Array.length_toList
    have hr : wordsR (cutL a0) = (headL (wordsL (cutL a0).data.toList), 0) := by unfold wordsR; rw [if_pos h4]
    have hlen : (headL (wordsL (cutL a0).data.toList)).length ≤ 400 := by rw [hr] at hl; exact hl
    have hwf := words_wf _ hle
    have htl := head_len _ hle
    have hb : (bstr (textL (headL (wordsL (cutL a0).data.toList)))).size ≤ 400 := by rw [bstr_size]; omega
    have hr2 : wordsR (bstr (textL (headL (wordsL (cutL a0).data.toList)))) = (headL (wordsL (cutL a0).data.toList), 0) := by
      unfold wordsR
      rw [if_pos hb]
      show (headL (wordsL (textL (headL (wordsL (cutL a0).data.toList)))), _) = _
      rw [head_again _ hle]
    rw [hr]
    dsimp only
    rw [if_pos rfl, text_is _ (by omega) hwf, Option.bind_some, words_is _ (by omega), Option.bind_some, hr2, if_pos rfl]
    dsimp only
    rw [if_pos rfl, Same_is _ _ (by omega) k (by omega), Option.bind_some, sameW_refl, if_pos rfl, Right_is _ (by omega) hwf, Option.bind_some, words_right _ hle, if_pos rfl, Option.bind_some, decide_eq_true (by rw [bstr_size]; omega)]
  · have hr : wordsR (cutL a0) = ([], 70) := by unfold wordsR; rw [if_neg h4]
    rw [hr, if_neg (by decide), if_pos rfl, Option.bind_some, if_pos (by omega)]
    rfl
end Go.Proofs.Ytnfbfachabdahaa.G
