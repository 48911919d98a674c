/- Chapter 10, plain: the document's answers on stacks are the program's. -/
import Derived.Test.YtiodlbfdfnideaaDoorH8
import Derived.Test.YtiodlbfdfnideaaDoorG13
import Derived.Test.YtiodlbfdfnideaaDoorG7
import Derived.Test.YtiodlbfdfnideaaDoorG8
import Derived.Test.YtiodlbfdfnideaaDoorG9
import Derived.Test.YtiodlbfdfnideaaDoorG10
import Derived.Test.YtiodlbfdfnideaaDoorG11
import Derived.Test.YtiodlbfdfnideaaDoorG12
namespace Go.Proofs.YtiodlbfdfnideaaDoor.G
open Go.RowKit Go.Proofs.YtiodlbfdfnideaaDoorW.PrintWords Go.Proofs.YtiodlbfdfnideaaDoorW.PrintLast Go.Proofs.YtiodlbfdfnideaaDoorW.PrintMore

theorem dropT_rd (l : List S42) (i : Nat) (h : i < l.length) : l.drop i = rd_T42 l i :: l.drop (i + 1) := by
  rw [List.drop_eq_getElem_cons h]
  simp [rd_T42, h]
theorem Right_l0 (y : List S42) (hy : y.length ≤ 40) (j : Nat) : ∀ (k i : Nat), i ≤ y.length → y.length - i = j → j < k → gutterref10_Right.l0 k y i = some ((y.drop i).all itemB && decide (y.length ≤ 200)) := by
  induction j with
  | zero =>
    intro k i hi hj hk
    obtain ⟨k, rfl⟩ : ∃ m, k = m + 1 := ⟨k - 1, by omega⟩
    simp only [gutterref10_Right.l0]
    rw [if_neg (by omega), List.drop_of_length_le (by omega), decide_eq_true (by omega), decide_eq_true (by omega)]
    rfl
  | succ j ih =>
    intro k i hi hj hk
    obtain ⟨k, rfl⟩ : ∃ m, k = m + 1 := ⟨k - 1, by omega⟩
    have hw : wrap64 ((i : Int) + 1) = ((i + 1 : Nat) : Int) := by rw [wrap_in (by omega) (by omega)]; omega
    simp only [gutterref10_Right.l0]
    rw [if_pos (by omega), if_pos (by omega), ref_is, Option.bind_some, ref_is, Option.bind_some, hw, ih k (i + 1) (by omega) (by omega) (by omega), dropT_rd y i (by omega), List.all_cons]
    by_cases h1 : marB (rd_T42 y i).f0 = true
    · rw [if_pos h1]
      by_cases h2 : marB (rd_T42 y i).f2 = true
      · rw [if_pos h2]
        by_cases h3 : (rd_T42 y i).f1 < 0
        · rw [if_pos h3]
          have : itemB (rd_T42 y i) = false := by simp [itemB]; omega
          rw [this]; rfl
        · rw [if_neg h3]
          by_cases h4 : (rd_T42 y i).f1 > 1048576
          · rw [if_pos h4]
            have : itemB (rd_T42 y i) = false := by simp [itemB]; omega
            rw [this]; rfl
          · rw [if_neg h4]
            have : itemB (rd_T42 y i) = true := by simp [itemB, h1, h2]; omega
            rw [this]; rfl
      · rw [if_neg h2]
        have : itemB (rd_T42 y i) = false := by simp [itemB, h2]
        rw [this]; rfl
    · rw [if_neg h1]
      have : itemB (rd_T42 y i) = false := by simp [itemB, h1]
      rw [this]; rfl
theorem ref_Right (y : List S42) (hy : y.length ≤ 40) (k : Nat) (hk : 40 < k) : gutterref10_Right.f k y = some (stackB y) :=
  Right_l0 y hy y.length k 0 (by omega) (by omega) (by omega)

/-- The margins that are left ahead of item j. -/
def behN (y : List S42) : Nat → List Int
  | 0 => []
  | j + 1 => if (rd_T42 y j).f1 > 0 then [(rd_T42 y j).f2] else (rd_T42 y j).f2 :: (rd_T42 y j).f0 :: behN y j
theorem behN_len (y : List S42) (j : Nat) : (behN y j).length ≤ 2 * j := by
  induction j with
  | zero => simp [behN]
  | succ j ih => unfold behN; split <;> simp <;> omega
theorem behN_mar (y : List S42) (h : y.all itemB = true) (j : Nat) (hj : j ≤ y.length) : (behN y j).all marB = true := by
  induction j with
  | zero => rfl
  | succ j ih =>
    have hx := itemB_in (item_at h j (by omega))
    have m0 : marB (rd_T42 y j).f0 = true := by simp [marB]; omega
    have m2 : marB (rd_T42 y j).f2 = true := by simp [marB]; omega
    unfold behN
    split
    · simp [m2]
    · simp only [List.all_cons, m0, m2, Bool.true_and]
      exact ih (by omega)
theorem colL_behN (y : List S42) (j : Nat) (hj : j ≤ y.length) : colL (behN y j) = (runL (y.take j)).1.2 := by
  induction j with
  | zero => rfl
  | succ j ih =>
    rw [takeT_rd y j (by omega), runL_snoc]
    dsimp only
    have ih := ih (by omega)
    unfold stS behN
    by_cases h : (rd_T42 y j).f1 > 0
    · rw [if_pos h, if_pos h]
      rfl
    · rw [if_neg h, if_neg h, colL_same _ (behN y j ++ [(rd_T42 y j).f0] ++ [(rd_T42 y j).f2]) (by intro x; simp; grind), colL_snoc, colL_snoc, colS, colS, ih]

theorem ahead_l0 (y : List S42) (hy : y.length ≤ 40) (j : Nat) : ∀ (k : Nat) (acc : List Int), j ≤ y.length → acc.length + 2 * j ≤ 1000 → j < k → gutterref10_ahead.l0 k y acc ((j : Int) - 1) = some (acc ++ behN y j) := by
  induction j with
  | zero =>
    intro k acc hj ha hk
    obtain ⟨k, rfl⟩ : ∃ m, k = m + 1 := ⟨k - 1, by omega⟩
    simp only [gutterref10_ahead.l0]
    rw [if_neg (by omega)]
    simp [behN]
  | succ j ih =>
    intro k acc hj ha hk
    obtain ⟨k, rfl⟩ : ∃ m, k = m + 1 := ⟨k - 1, by omega⟩
    have ei : ((j + 1 : Nat) : Int) - 1 = (j : Int) := by omega
    have hw : wrap64 ((j : Int) - 1) = (j : Int) - 1 := wrap_in (by omega) (by omega)
    simp only [gutterref10_ahead.l0]
    rw [ei, if_pos (by omega), if_pos (by omega), if_pos (by omega), if_pos (by omega), Option.bind_some, hw, behN]
    by_cases h : (rd_T42 y j).f1 > 0
    · rw [if_pos h, if_pos h]
    · rw [if_neg h, if_neg h, if_pos (by simp; omega), ih k _ (by omega) (by simp; omega) (by omega)]
      simp
theorem ref_ahead (y : List S42) (hy : y.length ≤ 40) (i : Nat) (hi : i < y.length) (k : Nat) (hk : i < k) : gutterref10_ahead.f k y i = some ((rd_T42 y i).f0 :: behN y i) := by
  unfold gutterref10_ahead.f
  rw [if_pos (by omega), if_pos (by omega), wrap_in (by omega) (by omega), ahead_l0 y hy i k _ (by omega) (by simp; omega) hk]
  rfl
/-- What is ahead of item i, and where it begins. -/
theorem ref_ahead_collapse (y : List S42) (hy : y.length ≤ 40) (h : y.all itemB = true) (i : Nat) (hi : i < y.length) (k : Nat) (hk : 100 < k) :
    gutterref10_collapse.f k ((rd_T42 y i).f0 :: behN y i) = some (plS (runL (y.take i)).1 (rd_T42 y i)).2 := by
  have hx := itemB_in (item_at h i hi)
  have m0 : marB (rd_T42 y i).f0 = true := by simp [marB]; omega
  have hl := behN_len y i
  rw [ref_collapse_in _ (by simp; omega) k (by simp; omega) (by rw [List.all_cons, m0, behN_mar y h i (by omega)]; rfl),
    colL_same _ (behN y i ++ [(rd_T42 y i).f0]) (by intro x; simp; grind), colL_snoc, colS, colL_behN y i (by omega), plS]

theorem top_f (y : List S42) (hy : y.length ≤ 40) (h : y.all itemB = true) (i : Nat) : i < y.length → ∀ k, 3 * i + 200 < k → gutterref10_top.f k y i = some (plS (runL (y.take i)).1 (rd_T42 y i)).1 := by
  induction i using Nat.strongRecOn with
  | _ i ih =>
    intro hi k hk
    obtain ⟨k, rfl⟩ : ∃ m, k = m + 1 := ⟨k - 1, by omega⟩
    have hin := runL_in (y.take i) (items_take h i)
    have hle : ((y.take i).length : Int) ≤ 40 := by rw [List.length_take]; omega
    have hx := itemB_in (item_at h i hi)
    obtain ⟨⟨x1a, x1b⟩, ⟨x0a, x0b⟩, ⟨x2a, x2b⟩⟩ := hx
    obtain ⟨hin1, hin2, hin3⟩ := hin
    have hu := mx_in hin2 x0b
    have hd := mn_in hin3 x0a
    simp only [gutterref10_top.f]
    rw [ref_ahead y hy i hi k (by omega), Option.bind_some, ref_ahead_collapse y hy h i hi k (by omega), Option.bind_some, wrap_in (by omega) (by omega)]
    have hn : -2097152 ≤ (plS (runL (y.take i)).1 (rd_T42 y i)).2 ∧ (plS (runL (y.take i)).1 (rd_T42 y i)).2 ≤ 2097152 := by rw [plS]; dsimp only; omega
    have e : (plS (runL (y.take i)).1 (rd_T42 y i)).1 = (plS (runL (y.take i)).1 (rd_T42 y i)).2 + (runL (y.take i)).1.1 := by rw [plS]; dsimp only; omega
    rw [e]
    generalize (plS (runL (y.take i)).1 (rd_T42 y i)).2 = n at hn
    have key : ∀ (j : Nat), j ≤ i → ∀ k, 3 * j + 199 < k → gutterref10_top.l0 k y n ((j : Int) - 1) = some (n + (runL (y.take j)).1.1) := by
      intro j
      induction j with
      | zero =>
        intro _ k hk
        obtain ⟨k, rfl⟩ : ∃ m, k = m + 1 := ⟨k - 1, by omega⟩
        simp only [gutterref10_top.l0]
        rw [if_neg (by omega)]
        simp [runL]
      | succ j ihj =>
        intro hj k hk
        obtain ⟨k, rfl⟩ : ∃ m, k = m + 1 := ⟨k - 1, by omega⟩
        have ei : ((j + 1 : Nat) : Int) - 1 = (j : Int) := by omega
        have hw : wrap64 ((j : Int) - 1) = (j : Int) - 1 := wrap_in (by omega) (by omega)
        have hjl : j < y.length := by omega
        have hin := runL_in (y.take j) (items_take h j)
        have hle : ((y.take j).length : Int) ≤ 40 := by rw [List.length_take]; omega
        have hx := itemB_in (item_at h j hjl)
        obtain ⟨⟨x1a, x1b⟩, ⟨x0a, x0b⟩, ⟨x2a, x2b⟩⟩ := hx
        obtain ⟨hin1, hin2, hin3⟩ := hin
        have hu := mx_in hin2 x0b
        have hd := mn_in hin3 x0a
        simp only [gutterref10_top.l0]
        rw [ei, if_pos (by omega), if_pos (by omega), if_pos (by omega), takeT_rd y j hjl, runL_snoc]
        dsimp only [stS]
        by_cases hf : (rd_T42 y j).f1 > 0
        · rw [if_pos hf, if_pos hf, ih j (by omega) hjl k (by omega), Option.bind_some, plS]
          dsimp only
          rw [wrap_in (x := n + _) (by omega) (by omega), wrap_in (by omega) (by omega)]
          congr 1
          omega
        · rw [if_neg hf, if_neg hf, hw]
          exact ihj (by omega) k (by omega)
    exact key i (Nat.le_refl _) k (by omega)

theorem Tops_l0 (y : List S42) (hy : y.length ≤ 40) (h : y.all itemB = true) (j : Nat) : ∀ (k i : Nat), i ≤ y.length → y.length - i = j → j + 400 < k →
    gutterref10_Tops.l0 k y ((runL (y.take i)).2.map (·.1)) i = some ((runL y).2.map (·.1), 0) := by
  induction j with
  | zero =>
    intro k i hi hj hk
    obtain ⟨k, rfl⟩ : ∃ m, k = m + 1 := ⟨k - 1, by omega⟩
    simp only [gutterref10_Tops.l0]
    rw [if_neg (by omega), List.take_of_length_le (by omega)]
  | succ j ih =>
    intro k i hi hj hk
    obtain ⟨k, rfl⟩ : ∃ m, k = m + 1 := ⟨k - 1, by omega⟩
    have hlt : i < y.length := by omega
    have hw : wrap64 ((i : Int) + 1) = ((i + 1 : Nat) : Int) := by rw [wrap_in (by omega) (by omega)]; omega
    have hl : ((runL (y.take i)).2.map (·.1)).length < 17592186044416 := by rw [List.length_map, runL_len, List.length_take]; omega
    have := ih k (i + 1) (by omega) (by omega) (by omega)
    rw [takeT_rd y i hlt, runL_snoc] at this
    dsimp only at this
    rw [List.map_append] at this
    simp only [gutterref10_Tops.l0]
    rw [if_pos (by omega), top_f y hy h i hlt k (by omega), Option.bind_some, if_pos hl, hw]
    exact this
theorem ref_Tops (y : List S42) (hy : y.length ≤ 40) (k : Nat) (hk : 500 < k) : gutterref10_Tops.f k y = margin_Tops.f y := by
  unfold gutterref10_Tops.f margin_Tops.f
  rw [ref_Right y hy k (by omega), Option.bind_some, if_pos (show y.length ≤ 1000 by omega)]
  by_cases h : stackB y = true
  · rw [if_pos h, if_pos h]
    exact Tops_l0 y hy (by simp only [stackB, Bool.and_eq_true] at h; exact h.1) y.length k 0 (by omega) (by omega) (by omega)
  · rw [if_neg h, if_neg h]

theorem End_l0 (y : List S42) (hy : y.length ≤ 40) (h : y.all itemB = true) (j : Nat) : ∀ (k i : Nat) (B : List Int), i ≤ y.length → y.length - i = j → j + 400 < k → colL B = (runL (y.take i)).1.2 → B.all marB = true → B.length ≤ 2 * i →
    gutterref10_End.l0 k y (runL (y.take i)).1.1 B i = some ((runL y).1.1, (runL y).1.2.1 + (runL y).1.2.2, 0) := by
  induction j with
  | zero =>
    intro k i B hi hj hk hB hm hl
    obtain ⟨k, rfl⟩ : ∃ m, k = m + 1 := ⟨k - 1, by omega⟩
    simp only [gutterref10_End.l0]
    rw [List.take_of_length_le (by omega)] at hB
    rw [if_neg (by omega), List.take_of_length_le (by omega), ref_collapse_in B (by omega) k (by omega) hm, hB]
    rfl
  | succ j ih =>
    intro k i B hi hj hk hB hm hl
    obtain ⟨k, rfl⟩ : ∃ m, k = m + 1 := ⟨k - 1, by omega⟩
    have hlt : i < y.length := by omega
    have hw : wrap64 ((i : Int) + 1) = ((i + 1 : Nat) : Int) := by rw [wrap_in (by omega) (by omega)]; omega
    have hin := runL_in (y.take i) (items_take h i)
    have hle : ((y.take i).length : Int) ≤ 40 := by rw [List.length_take]; omega
    have hx := itemB_in (item_at h i hlt)
    obtain ⟨⟨x1a, x1b⟩, ⟨x0a, x0b⟩, ⟨x2a, x2b⟩⟩ := hx
    obtain ⟨hin1, hin2, hin3⟩ := hin
    have hu := mx_in hin2 x0b
    have hd := mn_in hin3 x0a
    have m0 : marB (rd_T42 y i).f0 = true := by simp [marB]; omega
    have m2 : marB (rd_T42 y i).f2 = true := by simp [marB]; omega
    simp only [gutterref10_End.l0]
    rw [if_pos (by omega), if_pos (by omega), hw]
    by_cases hf : (rd_T42 y i).f1 > 0
    · rw [if_pos hf, top_f y hy h i hlt k (by omega), Option.bind_some]
      have := ih k (i + 1) [(rd_T42 y i).f2] (by omega) (by omega) (by omega) (by rw [takeT_rd y i hlt, runL_snoc]; dsimp only; rw [stS, if_pos hf]; rfl) (by simp [m2]) (by simp; omega)
      rw [takeT_rd y i hlt, runL_snoc] at this
      dsimp only at this
      rw [stS, if_pos hf] at this
      rw [plS]
      dsimp only at this ⊢
      rw [wrap_in (by omega) (by omega)]
      exact this
    · rw [if_neg hf, Option.bind_some, if_pos (by simp; omega)]
      have := ih k (i + 1) (B ++ [(rd_T42 y i).f0, (rd_T42 y i).f2]) (by omega) (by omega) (by omega) (by
        rw [takeT_rd y i hlt, runL_snoc]
        dsimp only
        rw [stS, if_neg hf, show B ++ [(rd_T42 y i).f0, (rd_T42 y i).f2] = B ++ [(rd_T42 y i).f0] ++ [(rd_T42 y i).f2] by simp, colL_snoc, colL_snoc, colS, colS, hB]) (by rw [List.all_append, hm]; simp [m0, m2]) (by simp; omega)
      rw [takeT_rd y i hlt, runL_snoc] at this
      dsimp only at this
      rw [stS, if_neg hf] at this
      exact this
theorem ref_End (y : List S42) (hy : y.length ≤ 40) (k : Nat) (hk : 500 < k) : gutterref10_End.f k y = margin_End.f y := by
  unfold gutterref10_End.f margin_End.f
  rw [ref_Right y hy k (by omega), Option.bind_some, if_pos (show y.length ≤ 1000 by omega)]
  by_cases h : stackB y = true
  · rw [if_pos h, if_pos h]
    exact End_l0 y hy (by simp only [stackB, Bool.and_eq_true] at h; exact h.1) y.length k 0 [] (by omega) (by omega) (by omega) rfl rfl (by simp)
  · rw [if_neg h, if_neg h]

theorem btw_j0_true (y : List S42) (i : Int) (k : Nat) (hk : 0 < k) : gutterref10_Between.j0 k y i true = some (0, 100) := by
  obtain ⟨k, rfl⟩ : ∃ m, k = m + 1 := ⟨k - 1, by omega⟩
  simp only [gutterref10_Between.j0]
  rw [if_pos trivial]
theorem ref_Between (y : List S42) (hy : y.length ≤ 40) (i : Int) (k : Nat) (hk : 500 < k) : gutterref10_Between.f k y i = margin_Between.f y i := by
  unfold gutterref10_Between.f margin_Between.f
  rw [ref_Right y hy k (by omega), Option.bind_some, if_pos (show y.length ≤ 1000 by omega)]
  by_cases h : stackB y = true
  · have hall : y.all itemB = true := by simp only [stackB, Bool.and_eq_true] at h; exact h.1
    rw [if_pos h, if_pos h, btwF]
    by_cases h1 : i < 0
    · rw [if_pos h1, btw_j0_true y i k (by omega), if_pos (.inl h1)]
    · rw [if_neg h1]
      by_cases h2 : i ≥ y.length
      · rw [if_pos h2, btw_j0_true y i k (by omega), if_pos (.inr (.inl h2))]
      · rw [if_neg h2, if_pos (by omega), if_pos (by omega)]
        by_cases h3 : (rd_T42 y i).f1 = 0
        · rw [if_pos (.inr (.inr h3)), show ((rd_T42 y i).f1 == 0) = true by simp [h3], btw_j0_true y i k (by omega)]
        · rw [if_neg (by omega), show ((rd_T42 y i).f1 == 0) = false by simp [h3]]
          obtain ⟨n, rfl⟩ := Int.eq_ofNat_of_zero_le (show 0 ≤ i by omega)
          obtain ⟨k, rfl⟩ : ∃ m, k = m + 1 := ⟨k - 1, by omega⟩
          have hn : n < y.length := by omega
          simp only [gutterref10_Between.j0]
          rw [if_neg (by simp), ref_ahead y hy n hn k (by omega), Option.bind_some, ref_ahead_collapse y hy hall n hn k (by omega), Option.bind_some, btw_get _ n (by rw [runL_len]; omega), runL_get y n hn]
  · rw [if_neg h, if_neg h, btw_j0_true y i k (by omega)]

/-- MarginStacks, plain. -/
theorem MarginStacks (l0 : List S42) (i : Int) : ∃ k, gutterlaw10_MarginStacks.f k l0 i = some true := by
  refine ⟨2000, ?_⟩
  unfold gutterlaw10_MarginStacks.f
  rw [shown_k 2000 (by omega), Option.bind_some, Option.bind_some]
  have hl : (l0.take 40).length ≤ 40 := by simp; omega
  generalize l0.take 40 = y at hl ⊢
  rw [ref_Tops y hl 2000 (by omega), ref_End y hl 2000 (by omega), ref_Between y hl i 2000 (by omega), ref_Right y hl 2000 (by omega)]
  obtain ⟨t, ht⟩ : ∃ t, margin_Tops.f y = some t := by unfold margin_Tops.f; rw [if_pos (by omega)]; exact ⟨_, rfl⟩
  obtain ⟨e, he⟩ : ∃ t, margin_End.f y = some t := by unfold margin_End.f; rw [if_pos (by omega)]; exact ⟨_, rfl⟩
  obtain ⟨b, hb⟩ : ∃ t, margin_Between.f y i = some t := by unfold margin_Between.f; rw [if_pos (by omega)]; exact ⟨_, rfl⟩
  have hr : margin_Right.f y = some (stackB y) := by unfold margin_Right.f; rw [if_pos (by omega)]
  have htl : t.1.length ≤ 1000 := by
    unfold margin_Tops.f at ht
    rw [if_pos (by omega)] at ht
    obtain rfl := Option.some.inj ht
    split
    · rw [List.length_map, runL_len]; omega
    · simp
  rw [ht, he, hb, hr]
  simp only [Option.bind_some, nums_same t.1 htl 2000 (by omega), if_true, beq_self_eq_true]
end Go.Proofs.YtiodlbfdfnideaaDoor.G
