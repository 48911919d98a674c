/- Chapter 7, plain: the words of two texts with a line end between. -/
import Derived.Test.YtnfbfachabdahaaH3
namespace Go.Proofs.Ytnfbfachabdahaa.G
open Go.RowKit Go.Shelf Go.Proofs.YtnfbfachabdahaaW.PrintWords Go.Proofs.YtnfbfachabdahaaW.PrintLast Go.Proofs.YtnfbfachabdahaaW.PrintMore

/-- Where a gap follows, a word is read as it was. -/
theorem runW_then : ∀ (l : List UInt8) (s : UInt8 × Bool) (T : List UInt8), (∀ c r, T = c :: r → gapB c = true) → runW s (l ++ T) = ((runW s l).1, (runW s l).2 ++ T)
  | [], s, T, h => by
    cases T with
    | nil => rfl
    | cons c r => exact runW_none (stW_gap (h c r rfl))
  | d :: l, s, T, h => by
    cases hs : stW s d with
    | none => rw [List.cons_append, runW_none hs, runW_none hs]; rfl
    | some s' => rw [List.cons_append, runW_some hs, runW_some hs, runW_then l s' T h]
theorem ahead_then {l : List UInt8} (T : List UInt8) (h : afterL l ≠ []) : aheadL (l ++ T) = aheadL l ∧ afterL (l ++ T) = afterL l ++ T := by
  induction l with
  | nil => exact absurd rfl h
  | cons c l ih =>
    unfold afterL at h
    unfold aheadL afterL at ih ⊢
    rw [List.cons_append]
    cases hg : gapB c with
    | false => simp [hg]
    | true =>
      rw [List.dropWhile_cons, if_pos hg] at h
      simp only [List.takeWhile_cons, List.dropWhile_cons, hg, if_true]
      obtain ⟨h1, h2⟩ := ih h
      exact ⟨by rw [h1], h2⟩
/-- A text that is empty, or does not end with a gap. -/
def endsT (l : List UInt8) : Prop := ∀ u c, l = u ++ [c] → gapB c = false
theorem words_then (s T : List UInt8) (hs : endsT s) (hT : ∀ c r, T = c :: r → gapB c = true) : wordsL (s ++ T) = wordsL s ++ wordsL T := by
  have H : endsT s → wordsL (s ++ T) = wordsL s ++ wordsL T := by
    refine words_ind (Q := fun l ws => endsT l → wordsL (l ++ T) = ws ++ wordsL T) (fun l ht hl => ?_) (fun l ht ih hl => ?_) s
    · have hl0 : l = [] := by
        cases hq : l with
        | nil => rfl
        | cons c r =>
          exfalso
          obtain ⟨u, d, hud⟩ : ∃ u d, l = u ++ [d] := ⟨_, _, (List.dropLast_concat_getLast (by rw [hq]; simp)).symm⟩
          have hd := hl u d hud
          have h1 := ahead_app l
          have h2 : afterL l ≠ [] := fun e => by
            rw [e, List.append_nil] at h1
            have hm : d ∈ aheadL l := by rw [h1, hud]; simp
            have := List.all_eq_true.1 (List.all_takeWhile (p := gapB) (l := l)) d hm
            rw [hd] at this
            cases this
          cases ha : afterL l with
          | nil => exact h2 ha
          | cons e t =>
            have hg : gapB e = false := by
              have := List.head?_dropWhile_not gapB l
              rw [show l.dropWhile gapB = e :: t from ha] at this
              simpa using this
            have : tokL l = e :: (runW (e, true) t).1 := by unfold tokL; rw [ha, runW_some (stW_yes hg rfl)]
            rw [this] at ht
            cases ht
      rw [hl0]
      rfl
    · have h2 : afterL l ≠ [] := fun e => by
        have : tokL l = [] := by unfold tokL; rw [e]; rfl
        rw [this] at ht
        cases ht
      obtain ⟨a1, a2⟩ := ahead_then T h2
      have hr := runW_then (afterL l) (0, false) T hT
      have ht' : tokL (l ++ T) = tokL l := by
        show (runW (0, false) (afterL (l ++ T))).1 = tokL l
        rw [a2, hr]
        rfl
      have hr' : restL (l ++ T) = restL l ++ T := by
        show (runW (0, false) (afterL (l ++ T))).2 = restL l ++ T
        rw [a2, hr]
        rfl
      have hrest : endsT (restL l) := fun u c e => by
        refine hl (aheadL l ++ (tokL l ++ u)) c ?_
        have q1 := ahead_app l
        have q2 := tok_app l
        rw [e] at q2
        rw [← q2] at q1
        rw [List.append_assoc, List.append_assoc]
        exact q1.symm
      rw [wordsL_cons (by rw [ht']; exact ht), hr', ih hrest]
      unfold wordAt spaceL hardL
      rw [ht', a1]
      rfl
  exact H hs
/-- One line end more ahead of the first one. -/
def bumpL : List S34 → List S34
  | [] => []
  | x :: l => { x with f3 := x.f3 + 1 } :: l
theorem words_line (t : List UInt8) : wordsL (10 :: t) = bumpL (wordsL t) := by
  have h1 : aheadL (10 :: t) = 10 :: aheadL t := rfl
  have h2 : afterL (10 :: t) = afterL t := rfl
  have ht : tokL (10 :: t) = tokL t := rfl
  have hr : restL (10 :: t) = restL t := rfl
  cases hk : (tokL t).isEmpty with
  | true => rw [wordsL_nil (l := 10 :: t) (by rw [ht]; exact hk), wordsL_nil hk]; rfl
  | false =>
    rw [wordsL_cons (l := 10 :: t) (by rw [ht]; exact hk), wordsL_cons hk, hr]
    have hs : spaceL (10 :: t) = spaceL t := by
      unfold spaceL
      rw [h1]
      congr 1
      rw [eq_iff_iff]
      show [32].isSuffixOf (10 :: aheadL t) = true ↔ [32].isSuffixOf (aheadL t) = true
      rw [List.isSuffixOf_iff_suffix, List.isSuffixOf_iff_suffix, List.suffix_cons_iff]
      constructor
      · rintro (h | h)
        · injection h with h _; cases h
        · exact h
      · exact Or.inr
    have hh : hardL (10 :: t) = hardL t + 1 := by
      unfold hardL
      rw [h1]
      show ((List.count 10 (10 :: aheadL t) : Nat) : Int) = _
      rw [List.count_cons_self]
      rfl
    unfold wordAt bumpL
    rw [hs, hh, ht]
theorem words_join (s t : List UInt8) (hs : endsT s) (h0 : s ≠ []) : wordsL (s ++ 10 :: t) = wordsL s ++ bumpL (wordsL t) ∧ wordsL s ≠ [] := by
  refine ⟨?_, ?_⟩
  · rw [words_then s (10 :: t) hs (fun c r e => by injection e with e _; rw [← e]; rfl), words_line]
  · intro e
    have hl := words_then s [10] hs (fun c r e => by injection e with e _; rw [← e]; rfl)
    -- a text without words is gaps alone
    obtain ⟨u, d, hud⟩ : ∃ u d, s = u ++ [d] := ⟨_, _, (List.dropLast_concat_getLast h0).symm⟩
    have hd := hs u d hud
    cases hk : (tokL s).isEmpty with
    | false => rw [wordsL_cons hk] at e; cases e
    | true =>
      have h1 := ahead_app s
      cases ha : afterL s with
      | nil =>
        rw [ha, List.append_nil] at h1
        have hm : d ∈ aheadL s := by rw [h1, hud]; simp
        have := List.all_eq_true.1 (List.all_takeWhile (p := gapB) (l := s)) d hm
        rw [hd] at this
        cases this
      | cons c r =>
        have hg : gapB c = false := by
          have := List.head?_dropWhile_not gapB s
          rw [show s.dropWhile gapB = c :: r from ha] at this
          simpa using this
        have : tokL s = c :: (runW (c, true) r).1 := by unfold tokL; rw [ha, runW_some (stW_yes hg rfl)]
        rw [this] at hk
        cases hk
theorem head_app {l m : List S34} (h : l ≠ []) : headL (l ++ m) = headL l ++ m := by
  cases l with
  | nil => exact absurd rfl h
  | cons x l => rfl
end Go.Proofs.Ytnfbfachabdahaa.G
