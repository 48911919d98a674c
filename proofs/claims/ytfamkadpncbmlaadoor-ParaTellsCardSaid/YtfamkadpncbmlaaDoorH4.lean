/- Chapter 9, plain: ParaTells. -/
import Derived.Test.YtfamkadpncbmlaaDoorH1
import Derived.Test.YtfamkadpncbmlaaDoorG16
namespace Go.Proofs.YtfamkadpncbmlaaDoor.G
open Go.RowKit Go.Proofs.YtfamkadpncbmlaaDoorW.PrintWords Go.Proofs.YtfamkadpncbmlaaDoorW.PrintLast Go.Proofs.YtfamkadpncbmlaaDoorW.PrintMore

theorem ref_May (n o d k : Int) : gutterref09_May.f n o d k = para_May.f n o d k := by
  unfold gutterref09_May.f para_May.f
  rw [ref_is, ref_may]
  cases isB n o d <;> simp
theorem splits_l0 (n o d : Int) (hn : n ≤ 500) (j : Nat) : ∀ (k m : Nat), m + j = n.toNat - 1 → 0 < n → j < k → gutterref09_Splits.l0 k n o d (upTo n o d m) ((m : Int) + 1) = some (upTo n o d (n.toNat - 1), 0) := by
  induction j with
  | zero =>
    intro k m hm h0 hk
    obtain ⟨k, rfl⟩ : ∃ m, k = m + 1 := ⟨k - 1, by omega⟩
    simp only [gutterref09_Splits.l0]; rw [if_neg (by omega)]
    have e : m = n.toNat - 1 := by omega
    rw [e]
  | succ j ih =>
    intro k m hm h0 hk
    obtain ⟨k, rfl⟩ : ∃ m, k = m + 1 := ⟨k - 1, by omega⟩
    simp only [gutterref09_Splits.l0]
    have hl := upTo_len n o d m
    have hs := upTo_succ n o d m
    have e : ((m + 1 : Nat) : Int) + 1 = (m : Int) + 1 + 1 := by omega
    have hi := ih k (m + 1) (by omega) h0 (by omega)
    rw [e] at hi
    rw [if_pos (by omega), ref_may, Option.bind_some, wrap_in (by omega) (by omega)]
    by_cases h : mayB n o d ((m : Int) + 1) = true
    · rw [if_pos h] at hs
      rw [if_pos h, if_pos (by omega), ← hs]; exact hi
    · rw [if_neg h, List.append_nil] at hs
      rw [if_neg h, ← hs]; exact hi
theorem ref_Splits (k : Nat) (n o d : Int) (hk : 600 < k) : gutterref09_Splits.f k n o d = para_Splits.f n o d := by
  unfold gutterref09_Splits.f para_Splits.f
  rw [ref_is, Option.bind_some]
  cases h : isB n o d
  · simp
  · rw [if_pos rfl, if_pos rfl]
    have hn := isB_n h
    by_cases h0 : 0 < n
    · exact splits_l0 n o d hn.2 (n.toNat - 1) k 0 (by omega) h0 (by omega)
    · obtain ⟨k, rfl⟩ : ∃ m, k = m + 1 := ⟨k - 1, by omega⟩
      simp only [gutterref09_Splits.l0]
      rw [if_neg (by omega)]
      have e : n.toNat - 1 = 0 := by omega
      rw [e]; rfl
theorem breaks_l0 (n o d : Int) (b : Bool) (hn : n ≤ 500) (j : Nat) : ∀ (k m : Nat), m + j = n.toNat - 1 → 0 < n → j < k → gutterref09_Breaks.l0 k n o d b (brk n o d b m) ((m : Int) + 1) = some (brk n o d b (n.toNat - 1), 0) := by
  induction j with
  | zero =>
    intro k m hm h0 hk
    obtain ⟨k, rfl⟩ : ∃ m, k = m + 1 := ⟨k - 1, by omega⟩
    simp only [gutterref09_Breaks.l0]; rw [if_neg (by omega)]
    have e : m = n.toNat - 1 := by omega
    rw [e]
  | succ j ih =>
    intro k m hm h0 hk
    obtain ⟨k, rfl⟩ : ∃ m, k = m + 1 := ⟨k - 1, by omega⟩
    simp only [gutterref09_Breaks.l0]
    have hl := brk_len n o d b m
    have hs := brk_succ n o d b m
    have e : ((m + 1 : Nat) : Int) + 1 = (m : Int) + 1 + 1 := by omega
    have hi := ih k (m + 1) (by omega) h0 (by omega)
    rw [e, hs] at hi
    rw [if_pos (by omega), ref_may, Option.bind_some, wrap_in (by omega) (by omega)]
    cases h : mayB n o d ((m : Int) + 1)
    · rw [h] at hi
      simp only [Bool.false_and, Bool.false_eq_true, if_false] at hi ⊢
      rw [if_pos (by omega)]; exact hi
    · rw [h] at hi
      cases b
      · simp only [Bool.true_and, Bool.not_false, Bool.false_eq_true, if_false, if_true] at hi ⊢
        rw [if_pos (by omega)]; exact hi
      · simp only [Bool.true_and, Bool.not_true, Bool.false_eq_true, if_false, if_true] at hi ⊢
        rw [if_pos (by omega)]; exact hi
theorem ref_Breaks (k : Nat) (n o d : Int) (b : Bool) (hk : 600 < k) : gutterref09_Breaks.f k n o d b = para_Breaks.f n o d b := by
  unfold gutterref09_Breaks.f para_Breaks.f
  rw [ref_is, Option.bind_some]
  cases h : isB n o d
  · simp
  · rw [if_pos rfl, if_pos rfl]
    have hn := isB_n h
    by_cases h0 : 0 < n
    · exact breaks_l0 n o d b hn.2 (n.toNat - 1) k 0 (by omega) h0 (by omega)
    · obtain ⟨k, rfl⟩ : ∃ m, k = m + 1 := ⟨k - 1, by omega⟩
      simp only [gutterref09_Breaks.l0]
      rw [if_neg (by omega)]
      have e : n.toNat - 1 = 0 := by omega
      rw [e]; rfl
theorem Splits_some (n o d : Int) : ∃ p, para_Splits.f n o d = some p ∧ p.1.length ≤ 500 := by
  refine ⟨_, rfl, ?_⟩
  split
  · rename_i h
    have := isB_n h
    have := upTo_len n o d (n.toNat - 1)
    dsimp only
    omega
  · simp
theorem Breaks_some (n o d : Int) (b : Bool) : ∃ p, para_Breaks.f n o d b = some p ∧ p.1.length ≤ 500 := by
  refine ⟨_, rfl, ?_⟩
  split
  · rename_i h
    have := isB_n h
    have := brk_len n o d b (n.toNat - 1)
    dsimp only
    omega
  · simp
theorem ParaTells : gutterlaw09_ParaTells.Pure := by
  intro n o d k b _ _ _ _
  refine ⟨2000, ?_⟩
  unfold gutterlaw09_ParaTells.f
  rw [shown_k 2000 (by omega), Option.bind_some, ref_May, ref_Splits 2000 n o d (by omega), ref_Breaks 2000 n o d b (by omega)]
  obtain ⟨p, hp⟩ : ∃ p, para_May.f n o d k = some p := ⟨_, rfl⟩
  obtain ⟨q, hq, hl⟩ := Splits_some n o d
  obtain ⟨t, ht, hl2⟩ := Breaks_some n o d b
  rw [hp, hq, ht]
  simp only [Option.bind_some, if_true]
  rw [ints_same 2000 q.1 (by omega) (by omega), ints_same 2000 t.1 (by omega) (by omega)]
  simp
end Go.Proofs.YtfamkadpncbmlaaDoor.G
