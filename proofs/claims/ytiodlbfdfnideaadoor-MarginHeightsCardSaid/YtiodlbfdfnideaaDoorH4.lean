/- Chapter 10, plain: MarginHeights, MarginSteps. -/
import Derived.Test.YtiodlbfdfnideaaDoorH1
import Derived.Test.YtiodlbfdfnideaaDoorG16
import Derived.Test.YtiodlbfdfnideaaDoorG17
namespace Go.Proofs.YtiodlbfdfnideaaDoor.G
open Go.RowKit Go.Proofs.YtiodlbfdfnideaaDoorW.PrintWords Go.Proofs.YtiodlbfdfnideaaDoorW.PrintLast Go.Proofs.YtiodlbfdfnideaaDoorW.PrintMore

theorem rdT_lt (l m : List S42) (i : Nat) (h : i < l.length) : rd_T42 (l ++ m) i = rd_T42 l i := by
  simp [rd_T42, List.getElem?_append_left h]
theorem rdT_last (l : List S42) (x : S42) : rd_T42 (l ++ [x]) l.length = x := by simp [rd_T42]
/-- Each place, out of the stack ahead of it. -/
theorem runL_get (l : List S42) (i : Nat) (h : i < l.length) : (runL l).2.getD i (0, 0) = plS (runL (l.take i)).1 (rd_T42 l i) := by
  induction l using snoc_ind with
  | h0 => simp at h
  | h1 l x ih =>
    rw [runL_snoc]
    dsimp only
    have hlen := runL_len l
    by_cases hlt : i < l.length
    · rw [rdT_lt l [x] i hlt, List.take_append_of_le_length (by omega), ← ih hlt]
      simp [List.getElem?_append_left (show i < (runL l).2.length by omega)]
    · have e : i = l.length := by simp at h; omega
      subst e
      rw [rdT_last, List.take_left, ← hlen]
      simp
theorem rd_map (l : List (Int × Int)) (i : Nat) : rd (l.map (·.1)) i = (l.getD i (0, 0)).1 := by
  simp only [rd, Int.toNat_natCast, List.getD_eq_getElem?_getD, List.getElem?_map]
  cases l[i]? <;> rfl
theorem btw_get (l : List (Int × Int)) (i : Nat) (h : i < l.length) : btw i l = (l.getD i (0, 0)).2 := by
  unfold btw
  rw [if_pos ⟨by omega, by omega⟩, Int.toNat_natCast]

/-! ### without margins -/
def hOf (x : S42) : S42 := ⟨0, x.f1, 0⟩
def sumH (l : List S42) : Int := l.foldl (fun s x => s + x.f1) 0
theorem sumH_snoc (l : List S42) (x : S42) : sumH (l ++ [x]) = sumH l + x.f1 := by simp [sumH]
theorem runL_h (l : List S42) (h : (l.map hOf).all itemB = true) : (runL (l.map hOf)).1 = (sumH l, 0, 0) := by
  induction l using snoc_ind with
  | h0 => rfl
  | h1 l x ih =>
    rw [List.map_append, List.all_append, Bool.and_eq_true] at h
    have hx := itemB_in (by simpa using h.2 : itemB (hOf x) = true)
    rw [List.map_append, List.map_singleton, runL_snoc, ih h.1, sumH_snoc]
    dsimp only [hOf] at hx ⊢
    unfold stS
    dsimp only
    by_cases h1 : x.f1 > 0
    · rw [if_pos h1]
      simp [mx, mn]
    · rw [if_neg h1]
      simp [mx, mn]
      omega
theorem rdT_map (l : List S42) (i : Nat) (h : i < l.length) : rd_T42 (l.map hOf) i = hOf (rd_T42 l i) := by
  simp [rd_T42, h]
theorem sumH_in (l : List S42) (h : (l.map hOf).all itemB = true) : 0 ≤ sumH l ∧ sumH l ≤ 1048576 * (l.length : Int) := by
  induction l using snoc_ind with
  | h0 => simp [sumH]
  | h1 l x ih =>
    rw [List.map_append, List.all_append, Bool.and_eq_true] at h
    have hx := itemB_in (by simpa using h.2 : itemB (hOf x) = true)
    have := ih h.1
    rw [sumH_snoc]
    dsimp only [hOf] at hx
    have e : ((l ++ [x]).length : Int) = (l.length : Int) + 1 := by simp
    rw [e]
    omega

attribute [local irreducible] runL sumH stS plS btw
theorem heights_l1 (l : List S42) (hl : l.length ≤ 40) (h : (l.map hOf).all itemB = true) (j : Nat) : ∀ (k i : Nat), i ≤ l.length → l.length - i = j → j < k →
    gutterlaw10_MarginHeights.l1 k true (l.map hOf) ((runL (l.map hOf)).2.map (·.1)) (sumH l) 0 0 (sumH (l.take i)) i = some true := by
  have hlen : ((runL (l.map hOf)).2.map (·.1)).length = l.length := by rw [List.length_map, runL_len, List.length_map]
  induction j with
  | zero =>
    intro k i hi hj hk
    obtain ⟨k, rfl⟩ : ∃ m, k = m + 1 := ⟨k - 1, by omega⟩
    simp only [gutterlaw10_MarginHeights.l1]
    rw [if_neg (by rw [List.length_map]; omega), if_pos trivial, List.take_of_length_le (by omega)]
    simp
  | succ j ih =>
    intro k i hi hj hk
    obtain ⟨k, rfl⟩ : ∃ m, k = m + 1 := ⟨k - 1, by omega⟩
    have hlt : i < l.length := by omega
    have p1 : (i : Int) < ((l.map hOf).length : Int) := by rw [List.length_map]; omega
    have p2 : ¬ (i : Int) ≥ (((runL (l.map hOf)).2.map (·.1)).length : Int) := by rw [hlen]; omega
    have p3 : (0 : Int) ≤ (i : Int) := by omega
    have p4 : (i : Int) < (((runL (l.map hOf)).2.map (·.1)).length : Int) := by rw [hlen]; omega
    have hw : wrap64 ((i : Int) + 1) = ((i + 1 : Nat) : Int) := by rw [wrap_in (by omega) (by omega)]; omega
    have hnext := ih k (i + 1) (by omega) (by omega) (by omega)
    have htk : ((l.take i).map hOf).all itemB = true := by
      rw [List.map_take]
      exact items_take h i
    have hs := sumH_in (l.take i) htk
    have hle : ((l.take i).length : Int) ≤ 40 := by rw [List.length_take]; omega
    have hx := itemB_in (item_at h i (by simpa using hlt))
    rw [rdT_map l i hlt] at hx
    dsimp only [hOf] at hx
    have hat : rd ((runL (l.map hOf)).2.map (·.1)) i = sumH (l.take i) := by
      rw [rd_map, runL_get _ i (by simpa using hlt), ← List.map_take, runL_h _ htk, rdT_map l i hlt]
      simp [plS, hOf, mx, mn]
    have hw2 : wrap64 (sumH (l.take i) + (rd_T42 (l.map hOf) i).f1) = sumH (l.take (i + 1)) := by
      rw [rdT_map l i hlt, takeT_rd l i hlt, sumH_snoc]
      dsimp only [hOf]
      exact wrap_in (by omega) (by omega)
    simp only [gutterlaw10_MarginHeights.l1]
    rw [if_pos p1, if_neg p2, if_pos p3, if_pos p4, if_pos hat, hw, hw2]
    exact hnext

theorem heights_end (y : List S42) (hy : y.length ≤ 40) (k : Nat) (hk : 100 < k) : ((margin_Tops.f (y.map hOf)).bind fun bt310 => ((margin_End.f (y.map hOf)).bind fun bt314 => (if bt310.2 = 0 then (gutterlaw10_MarginHeights.l1 k true (y.map hOf) bt310.1 bt314.1 bt314.2.1 bt314.2.2 0 0) else (if true = true then (if bt314.2.2 = bt310.2 then ((margin_Right.f (y.map hOf)).bind fun t317 => (some (!t317))) else (some false)) else (some false))))) = some true := by
  unfold margin_Tops.f margin_End.f margin_Right.f
  have hl : (y.map hOf).length ≤ 1000 := by rw [List.length_map]; omega
  rw [if_pos hl, if_pos hl, if_pos hl]
  by_cases h : stackB (y.map hOf) = true
  · rw [if_pos h, if_pos h]
    simp only [Option.bind_some]
    rw [if_pos trivial]
    have hall : (y.map hOf).all itemB = true := by simp only [stackB, Bool.and_eq_true] at h; exact h.1
    rw [runL_h y hall]
    have hz : sumH (y.take 0) = 0 := by rw [List.take_zero, sumH]; rfl
    have := heights_l1 y hy hall y.length k 0 (by omega) (by omega) (by omega)
    rw [hz] at this
    exact this
  · rw [if_neg h, if_neg h]
    simp only [Option.bind_some]
    rw [if_pos trivial, if_pos trivial, Bool.eq_false_iff.mpr h]
    rfl

theorem heights_l0 (y : List S42) (hy : y.length ≤ 40) (j : Nat) : ∀ (k i : Nat), i ≤ y.length → y.length - i = j → j + 101 < k →
    gutterlaw10_MarginHeights.l0 k y true ((y.take i).map hOf) i = some true := by
  induction j with
  | zero =>
    intro k i hi hj hk
    obtain ⟨k, rfl⟩ : ∃ m, k = m + 1 := ⟨k - 1, by omega⟩
    simp only [gutterlaw10_MarginHeights.l0]
    rw [if_neg (by omega), List.take_of_length_le (by omega)]
    exact heights_end y hy k (by omega)
  | succ j ih =>
    intro k i hi hj hk
    obtain ⟨k, rfl⟩ : ∃ m, k = m + 1 := ⟨k - 1, by omega⟩
    have hlt : i < y.length := by omega
    have hw : wrap64 ((i : Int) + 1) = ((i + 1 : Nat) : Int) := by rw [wrap_in (by omega) (by omega)]; omega
    have hlen : ((y.take i).map hOf).length < 5864062014805 := by simp; omega
    have := ih k (i + 1) (by omega) (by omega) (by omega)
    rw [takeT_rd y i hlt, List.map_append, List.map_singleton] at this
    simp only [gutterlaw10_MarginHeights.l0]
    rw [if_pos (by omega), if_pos (by omega), if_pos hlen, hw]
    exact this
/-- MarginHeights, plain. -/
theorem MarginHeights (l0 : List S42) : ∃ k, gutterlaw10_MarginHeights.f k l0 = some true := by
  refine ⟨2000, ?_⟩
  unfold gutterlaw10_MarginHeights.f
  rw [shown_k 2000 (by omega), Option.bind_some]
  have hl : (l0.take 40).length ≤ 40 := by simp; omega
  exact heights_l0 (l0.take 40) hl (l0.take 40).length 2000 0 (by omega) (by omega) (by omega)

/-! ### steps -/
theorem steps_l0 (y : List S42) (hy : y.length ≤ 40) (hok : stackB y = true) (j : Nat) : ∀ (k i : Nat), i ≤ y.length → y.length - i = j → j < k →
    gutterlaw10_MarginSteps.l0 k y true ((runL y).2.map (·.1)) (runL (y.take i)).1.1 i = some true := by
  have hall : y.all itemB = true := by simp only [stackB, Bool.and_eq_true] at hok; exact hok.1
  have hlen : ((runL y).2.map (·.1)).length = y.length := by rw [List.length_map, runL_len]
  induction j with
  | zero =>
    intro k i hi hj hk
    obtain ⟨k, rfl⟩ : ∃ m, k = m + 1 := ⟨k - 1, by omega⟩
    simp only [gutterlaw10_MarginSteps.l0]
    rw [if_neg (by omega), List.take_of_length_le (by omega)]
    unfold margin_End.f
    rw [if_pos (by omega), if_pos hok]
    simp
  | succ j ih =>
    intro k i hi hj hk
    obtain ⟨k, rfl⟩ : ∃ m, k = m + 1 := ⟨k - 1, by omega⟩
    have hlt : i < y.length := by omega
    have p1 : (i : Int) < (y.length : Int) := by omega
    have p2 : ¬ (i : Int) ≥ (((runL y).2.map (·.1)).length : Int) := by rw [hlen]; omega
    have p3 : (0 : Int) ≤ (i : Int) := by omega
    have p4 : (i : Int) < (((runL y).2.map (·.1)).length : Int) := by rw [hlen]; omega
    have p5 : y.length ≤ 1000 := by omega
    have p6 : ¬ (i : Int) < 0 := by omega
    have p7 : ¬ (i : Int) ≥ (y.length : Int) := by omega
    have hw : wrap64 ((i : Int) + 1) = ((i + 1 : Nat) : Int) := by rw [wrap_in (by omega) (by omega)]; omega
    have hnext := ih k (i + 1) (by omega) (by omega) (by omega)
    have hin := runL_in (y.take i) (items_take hall i)
    have hle : ((y.take i).length : Int) ≤ 40 := by rw [List.length_take]; omega
    have hx := itemB_in (item_at hall i hlt)
    obtain ⟨⟨x1a, x1b⟩, ⟨x0a, x0b⟩, ⟨x2a, x2b⟩⟩ := hx
    obtain ⟨hin1, hin2, hin3⟩ := hin
    have hu := mx_in hin2 x0b
    have hd := mn_in hin3 x0a
    rw [takeT_rd y i hlt, runL_snoc] at hnext
    have hat : rd ((runL y).2.map (·.1)) i = (runL (y.take i)).1.1 + (mx (runL (y.take i)).1.2.1 (rd_T42 y i).f0 + mn (runL (y.take i)).1.2.2 (rd_T42 y i).f0) := by
      rw [rd_map, runL_get y i hlt, plS]
    have hbt : btw i (runL y).2 = mx (runL (y.take i)).1.2.1 (rd_T42 y i).f0 + mn (runL (y.take i)).1.2.2 (rd_T42 y i).f0 := by
      rw [btw_get _ i (by rw [runL_len]; omega), runL_get y i hlt, plS]
    simp only [gutterlaw10_MarginSteps.l0]
    rw [if_pos p1]
    unfold margin_Between.f
    rw [if_pos p5, if_pos hok, Option.bind_some, btwF, hbt]
    dsimp only at hnext
    rw [stS] at hnext
    generalize (runL (y.take i)).1 = s at *
    obtain ⟨e, u, d⟩ := s
    dsimp only at *
    generalize mx u (rd_T42 y i).f0 = u1 at *
    generalize mn d (rd_T42 y i).f0 = d1 at *
    by_cases h0 : (rd_T42 y i).f1 = 0
    · have q1 : ¬ (rd_T42 y i).f1 > 0 := by omega
      rw [if_pos p3, if_pos h0, if_pos (show ((i : Int) < 0 ∨ (i : Int) ≥ (y.length : Int) ∨ (rd_T42 y i).f1 = 0) from .inr (.inr h0)), if_pos rfl, hw]
      rw [if_neg q1] at hnext
      exact hnext
    · have q1 : (rd_T42 y i).f1 > 0 := by omega
      have q2 : ¬ ((i : Int) < 0 ∨ (i : Int) ≥ (y.length : Int) ∨ (rd_T42 y i).f1 = 0) := fun hh => hh.elim p6 (fun hh => hh.elim p7 h0)
      have w1 : wrap64 (e + (u1 + d1)) = e + (u1 + d1) := wrap_in (by omega) (by omega)
      have w2 : wrap64 (e + (u1 + d1) + (rd_T42 y i).f1) = e + (u1 + d1) + (rd_T42 y i).f1 := wrap_in (by omega) (by omega)
      rw [if_pos p3, if_neg h0, if_neg q2, if_pos rfl, if_neg p2, if_pos p4, hat, w1, if_pos rfl, w2, hw]
      rw [if_pos q1] at hnext
      exact hnext
/-- MarginSteps, plain. -/
theorem MarginSteps (l0 : List S42) : ∃ k, gutterlaw10_MarginSteps.f k l0 = some true := by
  refine ⟨2000, ?_⟩
  unfold gutterlaw10_MarginSteps.f
  rw [shown_k 2000 (by omega), Option.bind_some, Option.bind_some]
  have hl : (l0.take 40).length ≤ 40 := by simp; omega
  generalize l0.take 40 = y at hl ⊢
  unfold margin_Tops.f
  rw [if_pos (by omega)]
  by_cases h : stackB y = true
  · rw [if_pos h, Option.bind_some, if_pos rfl]
    have hz : (runL (y.take 0)).1.1 = 0 := by rw [List.take_zero]; simp [runL]
    have := steps_l0 y hl h y.length 2000 0 (by omega) (by omega) (by omega)
    rw [hz] at this
    exact this
  · rw [if_neg h, Option.bind_some, if_neg (by decide), if_pos rfl]
    rfl
end Go.Proofs.YtiodlbfdfnideaaDoor.G
