/- Chapter 10, plain: what several of the laws on items want. -/
import Derived.Test.YtiodlbfdfnideaaDoorH1
import Derived.Test.YtiodlbfdfnideaaDoorF11
namespace Go.Proofs.YtiodlbfdfnideaaDoor.G
open Go.RowKit Go.Proofs.YtiodlbfdfnideaaDoorW.PrintWords Go.Proofs.YtiodlbfdfnideaaDoorW.PrintLast Go.Proofs.YtiodlbfdfnideaaDoorW.PrintMore

theorem colL_up (l : List Int) : 0 ≤ (colL l).1 ∧ (∀ x ∈ l, x ≤ (colL l).1) ∧ ((colL l).1 = 0 ∨ (colL l).1 ∈ l) := by
  induction l using snoc_ind with
  | h0 => simp [colL]
  | h1 l x ih =>
    obtain ⟨h1, h2, h3⟩ := ih
    rw [colL_snoc, colS]
    dsimp only
    unfold mx
    refine ⟨by split <;> omega, fun y hy => ?_, ?_⟩
    · rw [List.mem_append, List.mem_singleton] at hy
      rcases hy with hy | rfl
      · have := h2 y hy
        split <;> omega
      · split <;> omega
    · split
      · exact .inr (by simp)
      · rcases h3 with h | h
        · exact .inl h
        · exact .inr (by simp [h])
theorem colL_down (l : List Int) : (colL l).2 ≤ 0 ∧ (∀ x ∈ l, (colL l).2 ≤ x) ∧ ((colL l).2 = 0 ∨ (colL l).2 ∈ l) := by
  induction l using snoc_ind with
  | h0 => simp [colL]
  | h1 l x ih =>
    obtain ⟨h1, h2, h3⟩ := ih
    rw [colL_snoc, colS]
    dsimp only
    unfold mn
    refine ⟨by split <;> omega, fun y hy => ?_, ?_⟩
    · rw [List.mem_append, List.mem_singleton] at hy
      rcases hy with hy | rfl
      · have := h2 y hy
        split <;> omega
      · split <;> omega
    · split
      · exact .inr (by simp)
      · rcases h3 with h | h
        · exact .inl h
        · exact .inr (by simp [h])
theorem colL_same (l m : List Int) (h : ∀ x, x ∈ l ↔ x ∈ m) : colL l = colL m := by
  obtain ⟨a1, a2, a3⟩ := colL_up l
  obtain ⟨b1, b2, b3⟩ := colL_up m
  obtain ⟨c1, c2, c3⟩ := colL_down l
  obtain ⟨d1, d2, d3⟩ := colL_down m
  have e1 : (colL l).1 = (colL m).1 := by
    have p : (colL l).1 ≤ (colL m).1 := by
      rcases a3 with h3 | h3
      · omega
      · exact b2 _ ((h _).1 h3)
    have q : (colL m).1 ≤ (colL l).1 := by
      rcases b3 with h3 | h3
      · omega
      · exact a2 _ ((h _).2 h3)
    omega
  have e2 : (colL l).2 = (colL m).2 := by
    have p : (colL m).2 ≤ (colL l).2 := by
      rcases c3 with h3 | h3
      · omega
      · exact d2 _ ((h _).1 h3)
    have q : (colL l).2 ≤ (colL m).2 := by
      rcases d3 with h3 | h3
      · omega
      · exact c2 _ ((h _).2 h3)
    omega
  exact Prod.ext e1 e2
theorem rdT_lt (l m : List S42) (i : Nat) (h : i < l.length) : rd_T42 (l ++ m) i = rd_T42 l i := by
  simp [rd_T42, List.getElem?_append_left h]
theorem rdT_last (l : List S42) (x : S42) : rd_T42 (l ++ [x]) l.length = x := by simp [rd_T42]
/-- Each place, out of the stack ahead of it. -/
theorem runL_get (l : List S42) (i : Nat) (h : i < l.length) : (runL l).2.getD i (0, 0) = plS (runL (l.take i)).1 (rd_T42 l i) := by
  induction l using snoc_ind with
  | h0 => simp at h
  | h1 l x ih =>
    rw [runL_snoc]
    dsimp only
    have hlen := runL_len l
    by_cases hlt : i < l.length
    · rw [rdT_lt l [x] i hlt, List.take_append_of_le_length (by omega), ← ih hlt]
      simp [List.getElem?_append_left (show i < (runL l).2.length by omega)]
    · have e : i = l.length := by simp at h; omega
      subst e
      rw [rdT_last, List.take_left, ← hlen]
      simp
theorem rd_map (l : List (Int × Int)) (i : Nat) : rd (l.map (·.1)) i = (l.getD i (0, 0)).1 := by
  simp only [rd, Int.toNat_natCast, List.getD_eq_getElem?_getD, List.getElem?_map]
  cases l[i]? <;> rfl
theorem btw_get (l : List (Int × Int)) (i : Nat) (h : i < l.length) : btw i l = (l.getD i (0, 0)).2 := by
  unfold btw
  rw [if_pos ⟨by omega, by omega⟩, Int.toNat_natCast]

theorem nums_l0 (l : List Int) (hl : l.length ≤ 1000) (j : Nat) : ∀ (k i : Nat), i ≤ l.length → l.length - i = j → j < k → gutterref10_Nums.l0 k l l i = some true := by
  induction j with
  | zero =>
    intro k i hi hj hk
    obtain ⟨k, rfl⟩ : ∃ m, k = m + 1 := ⟨k - 1, by omega⟩
    simp only [gutterref10_Nums.l0]
    rw [if_neg (by omega)]
  | succ j ih =>
    intro k i hi hj hk
    obtain ⟨k, rfl⟩ : ∃ m, k = m + 1 := ⟨k - 1, by omega⟩
    have hw : wrap64 ((i : Int) + 1) = ((i + 1 : Nat) : Int) := by rw [wrap_in (by omega) (by omega)]; omega
    simp only [gutterref10_Nums.l0]
    rw [if_pos (by omega), if_pos (by omega), if_pos (by omega), if_true, hw]
    exact ih k (i + 1) (by omega) (by omega) (by omega)
theorem nums_same (l : List Int) (hl : l.length ≤ 1000) (k : Nat) (hk : l.length < k) : gutterref10_Nums.f k l l = some true := by
  unfold gutterref10_Nums.f
  rw [if_pos rfl]
  exact nums_l0 l hl l.length k 0 (by omega) (by omega) hk

end Go.Proofs.YtiodlbfdfnideaaDoor.G
