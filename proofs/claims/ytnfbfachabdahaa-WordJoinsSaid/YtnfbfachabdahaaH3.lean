/- Chapter 7, plain: how wide words are at least, at most; what every word of a text is. -/
import Derived.Test.YtnfbfachabdahaaH2
import Derived.Test.YtnfbfachabdahaaG3
import Derived.Test.YtnfbfachabdahaaG15
namespace Go.Proofs.Ytnfbfachabdahaa.G
open Go.RowKit Go.Shelf Go.Proofs.YtnfbfachabdahaaW.PrintWords Go.Proofs.YtnfbfachabdahaaW.PrintLast Go.Proofs.YtnfbfachabdahaaW.PrintMore

/-- The greatest of a number and some. -/
def mxL (a : Int) (l : List Int) : Int := l.foldl mx a
theorem mxL_le (l : List Int) : ∀ (a c : Int), mxL a l ≤ c ↔ a ≤ c ∧ ∀ x ∈ l, x ≤ c := by
  induction l with
  | nil => intro a c; simp [mxL]
  | cons y l ih =>
    intro a c
    show mxL (mx a y) l ≤ c ↔ _
    rw [ih]
    have h : mx a y ≤ c ↔ a ≤ c ∧ y ≤ c := by unfold mx; split <;> omega
    rw [h]
    simp [and_assoc]
theorem mxL_self {a : Int} {l : List Int} : a ≤ mxL a l := ((mxL_le l a _).1 (Int.le_refl _)).1
theorem mxL_mem {a x : Int} {l : List Int} (h : x ∈ l) : x ≤ mxL a l := ((mxL_le l a _).1 (Int.le_refl _)).2 x h
theorem mxL_one {a x : Int} {l : List Int} (h : ∀ y ∈ l, y ≤ x) (ha : a ≤ x) (hx : x = a ∨ x ∈ l) : mxL a l = x := by
  have h1 := (mxL_le l a x).2 ⟨ha, h⟩
  have h2 : x ≤ mxL a l := by
    rcases hx with rfl | hx
    · exact mxL_self
    · exact mxL_mem hx
  omega
theorem drop_rd (l : List Int) (i : Nat) (h : i < l.length) : l.drop i = rd l i :: l.drop (i + 1) := by
  rw [List.drop_eq_getElem_cons h]
  simp [rd, h]
theorem widest_l0 (l : List Int) (hl : l.length ≤ 1000) (j : Nat) : ∀ (k i : Nat) (a : Int), i ≤ l.length → l.length - i = j → j < k →
    word_widest.l0 k a l l.length i = some (mxL a (l.drop i)) := by
  induction j with
  | zero =>
    intro k i a hi hj hk
    obtain ⟨k, rfl⟩ : ∃ m, k = m + 1 := ⟨k - 1, by omega⟩
    simp only [word_widest.l0]
    rw [if_neg (by omega), List.drop_of_length_le (by omega)]
    rfl
  | succ j ih =>
    intro k i a hi hj hk
    obtain ⟨k, rfl⟩ : ∃ m, k = m + 1 := ⟨k - 1, by omega⟩
    have hw : wrap64 ((i : Int) + 1) = ((i + 1 : Nat) : Int) := by rw [wrap_in (by omega) (by omega)]; omega
    simp only [word_widest.l0]
    rw [if_pos (by omega), if_pos (by omega), if_pos (by omega), hw, ih k (i + 1) _ (by omega) (by omega) (by omega), drop_rd l i (by omega)]
    rfl
theorem widest_is (l : List Int) (hl : l.length ≤ 1000) (a : Int) (k : Nat) (hk : l.length < k) : word_widest.f k a l = some (mxL a l) :=
  widest_l0 l hl l.length k 0 a (Nat.zero_le _) rfl hk
/-- How wide the widest word is. -/
def leastL : List S34 → Int
  | [] => 0
  | x :: l => mxL x.f1 (x.f1 :: l.map S34.f1)
theorem Least_l0 (l : List S34) (hl : l.length ≤ 1000) (j : Nat) : ∀ (k i : Nat), i ≤ l.length → l.length - i = j → j + l.length + 1 < k →
    word_Least.l0 k ((l.take i).map S34.f1) l l.length i = some (leastL l) := by
  induction j with
  | zero =>
    intro k i hi hj hk
    obtain ⟨k, rfl⟩ : ∃ m, k = m + 1 := ⟨k - 1, by omega⟩
    simp only [word_Least.l0]
    rw [if_neg (by omega), List.take_of_length_le (by omega)]
    cases l with
    | nil => rfl
    | cons x l =>
      rw [if_neg (by first | (simp; done) | (simp; omega)), if_pos (by first | (simp; done) | (simp; omega)), widest_is _ (by simpa using hl) _ k (by simp at hk ⊢; omega), Option.bind_some]
      rfl
  | succ j ih =>
    intro k i hi hj hk
    obtain ⟨k, rfl⟩ : ∃ m, k = m + 1 := ⟨k - 1, by omega⟩
    have hw : wrap64 ((i : Int) + 1) = ((i + 1 : Nat) : Int) := by rw [wrap_in (by omega) (by omega)]; omega
    have hmap : (l.take i).map S34.f1 ++ [(rd_T34 l i).f1] = (l.take (i + 1)).map S34.f1 := by rw [take34_rd l i (by omega), List.map_append]; rfl
    simp only [word_Least.l0]
    rw [if_pos (by omega), if_pos (by omega), if_pos (by omega), if_pos (by rw [List.length_map, List.length_take]; omega), hw, hmap, ih k (i + 1) (by omega) (by omega) (by omega)]
theorem Least_is (l : List S34) (hl : l.length ≤ 1000) (k : Nat) (hk : 2 * l.length + 1 < k) : word_Least.f k l = some (leastL l) :=
  Least_l0 l hl l.length k 0 (Nat.zero_le _) rfl (by omega)
/-- How wide all are that end with a word, no break between. -/
def stepE (n : Int) (x : S34) : Int := if x.f3 > 0 then x.f1 else mx x.f1 (n + x.f2 + x.f1)
def endsL : Int → List S34 → List Int
  | _, [] => []
  | n, x :: l => stepE n x :: endsL (stepE n x) l
/-- Words within bounds. -/
def smallS (x : S34) : Prop := (0 ≤ x.f1 ∧ x.f1 ≤ 1000000) ∧ (0 ≤ x.f2 ∧ x.f2 ≤ 1000)
theorem stepE_in {n : Int} {x : S34} (hx : smallS x) (hn : 0 ≤ n) : 0 ≤ stepE n x ∧ stepE n x ≤ n + 1001000 := by
  obtain ⟨h1, h2⟩ := hx
  unfold stepE mx
  split
  · omega
  · split <;> omega
theorem endsL_len : ∀ (l : List S34) (n : Int), (endsL n l).length = l.length
  | [], _ => rfl
  | _ :: l, _ => by simp [endsL, endsL_len l]
def mostL : List S34 → Int
  | [] => 0
  | x :: l => if rightL (x :: l) then mxL x.f1 (x.f1 :: endsL x.f1 l) else 0
theorem Most_l0 (l : List S34) (hl : l.length ≤ 1000) (hs : ∀ x ∈ l, smallS x) (j : Nat) : ∀ (k i : Nat) (E : List Int) (n : Int), 0 < i → i ≤ l.length → l.length - i = j → j + l.length + 1 < k → E.length = i → 0 ≤ n → n ≤ 1001000 * (i : Int) →
    word_Most.l0 k E n l l.length i = (word_widest.f (k - j - 1) (rd (E ++ endsL n (l.drop i)) 0) (E ++ endsL n (l.drop i))).bind fun t => some t := by
  induction j with
  | zero =>
    intro k i E n h0 hi hj hk hE hn hn2
    obtain ⟨k, rfl⟩ : ∃ m, k = m + 1 := ⟨k - 1, by omega⟩
    simp only [word_Most.l0]
    rw [if_neg (by omega), if_pos (by omega), List.drop_of_length_le (by omega)]
    simp [endsL]
  | succ j ih =>
    intro k i E n h0 hi hj hk hE hn hn2
    obtain ⟨k, rfl⟩ : ∃ m, k = m + 1 := ⟨k - 1, by omega⟩
    have hw : wrap64 ((i : Int) + 1) = ((i + 1 : Nat) : Int) := by rw [wrap_in (by omega) (by omega)]; omega
    have hx := hs _ (mem34_rd l i (by omega))
    have hin := stepE_in hx hn
    have ho := ih k (i + 1) (E ++ [stepE n (rd_T34 l i)]) (stepE n (rd_T34 l i)) (by omega) (by omega) (by omega) (by omega) (by rw [List.length_append, List.length_singleton]; omega) hin.1 (by omega)
    have hk' : k + 1 - (j + 1) - 1 = k - j - 1 := by omega
    rw [drop34 l i (by omega), endsL, hk']
    rw [List.append_assoc, List.singleton_append] at ho
    rw [← ho]
    obtain ⟨hx1, hx2⟩ := hx
    simp only [word_Most.l0]
    rw [if_pos (by omega), if_pos (by omega), if_pos (by omega), if_pos (by omega), hw]
    unfold stepE
    by_cases h3 : (rd_T34 l i).f3 > 0
    · rw [if_pos h3, if_pos h3, if_pos (by omega)]
    · rw [if_neg h3, if_neg h3, if_pos (by omega), wrap_in (x := n + (rd_T34 l i).f2) (by omega) (by omega), wrap_in (x := n + (rd_T34 l i).f2 + (rd_T34 l i).f1) (by omega) (by omega)]
theorem okB_small {x : S34} (h : okB x = true) (hw : wfT x = true) : smallS x := by
  simp only [okB, badB, Bool.not_eq_true', Bool.or_eq_false_iff, Bool.not_eq_false', beq_iff_eq, Bool.and_eq_false_iff, bne_eq_false_iff_eq] at h
  obtain ⟨h1, _, _, h4, _⟩ := h
  have h5 : x.f0.size ≤ 1000 := of_decide_eq_true hw
  have h6 := widthL_in x.f0.data.toList
  rw [Array.length_toList] at h6
  have h7 : x.f0.data.size = x.f0.size := rfl
  refine ⟨by omega, ?_⟩
  rcases h4 with h4 | h4 <;> omega
theorem Right_is (l : List S34) (hl : l.length ≤ 1000) (hw : ∀ x ∈ l, wfT x = true) : word_Right.f l = some (rightL l) := by
  unfold word_Right.f
  rw [if_pos ⟨hl, List.all_eq_true.2 hw⟩]
theorem Most_is (l : List S34) (hl : l.length ≤ 1000) (hw : ∀ x ∈ l, wfT x = true) (k : Nat) (hk : 2 * l.length + 10 < k) : word_Most.f k l = some (mostL l) := by
  obtain ⟨k, rfl⟩ : ∃ m, k = m + 2 := ⟨k - 2, by omega⟩
  unfold word_Most.f
  cases l with
  | nil => rfl
  | cons x l =>
    rw [if_neg (by first | (simp; done) | (simp; omega)), Right_is _ hl hw, Option.bind_some]
    simp only [word_Most.j0]
    show _ = some (if rightL (x :: l) then mxL x.f1 (x.f1 :: endsL x.f1 l) else 0)
    cases hr : rightL (x :: l) with
    | false => rfl
    | true =>
      have hs : ∀ y ∈ x :: l, smallS y := fun y hy => okB_small (by
        unfold rightL at hr
        rw [Bool.and_eq_true] at hr
        exact List.all_eq_true.1 hr.1 y hy) (hw y hy)
      have hsx := (hs x (by simp)).1
      rw [if_neg (by decide), if_pos (by first | (simp; done) | (simp; omega)), if_pos rfl, word_Most.l0, if_pos (by first | (simp; done) | (simp; omega)), if_pos (by decide), if_pos (by first | (simp; done) | (simp; omega)), if_neg (by decide)]
      have hrd : rd_T34 (x :: l) 0 = x := rfl
      rw [hrd]
      have hw1 : wrap64 ((0 : Int) + 1) = ((1 : Nat) : Int) := by rw [wrap_in (by omega) (by omega)]; rfl
      have step : word_Most.l0 k ([] ++ [x.f1]) x.f1 (x :: l) (x :: l).length (wrap64 ((0 : Int) + 1)) = some (mxL x.f1 (x.f1 :: endsL x.f1 l)) := by
        rw [hw1, Most_l0 (x :: l) hl hs l.length k 1 ([] ++ [x.f1]) x.f1 (by omega) (by simp) (by simp) (by simp at hk ⊢; omega) rfl hsx.1 (by omega), widest_is _ (by simp [endsL_len] at hl ⊢; omega) _ _ (by simp [endsL_len] at hk ⊢; omega)]
        rfl
      by_cases h3 : x.f3 > 0
      · rw [if_pos h3, if_pos (by decide)]
        exact step
      · rw [if_neg h3, if_pos (by decide)]
        exact step

/-! the words of a text -/
theorem runW_nogap : ∀ (l : List UInt8) (s : UInt8 × Bool), ∀ c ∈ (runW s l).1, gapB c = false
  | [], _, c, h => by cases h
  | d :: l, s, c, h => by
    cases hs : stW s d with
    | none => rw [runW_none hs] at h; cases h
    | some s' =>
      rw [runW_some hs] at h
      have hd : gapB d = false := by
        unfold stW at hs
        split at hs
        · cases hs
        · rename_i hq
          cases hg : gapB d with
          | false => rfl
          | true => rw [hg] at hq; exact absurd rfl hq
      rcases List.mem_cons.1 h with rfl | h
      · exact hd
      · exact runW_nogap l s' c h
/-- A word of a text. -/
def wordOK (n : Nat) (x : S34) : Prop := ∃ t : List UInt8, x.f0 = bstr t ∧ t ≠ [] ∧ t.length ≤ n ∧ (∀ c ∈ t, gapB c = false) ∧ x.f1 = widthL t ∧ (x.f2 = 0 ∨ x.f2 = 256) ∧ 0 ≤ x.f3 ∧ x.f3 ≤ n
theorem ahead_len (l : List UInt8) : (aheadL l).length + (tokL l).length + (restL l).length = l.length := by
  have h1 := congrArg List.length (ahead_app l)
  have h2 := congrArg List.length (tok_app l)
  rw [List.length_append] at h1 h2
  omega
theorem wordAt_ok (l : List UInt8) (h : (tokL l).isEmpty = false) : wordOK l.length (wordAt l) := by
  have hlen := ahead_len l
  have hc : Lib.countByte (aheadL l) 10 ≤ (aheadL l).length := List.count_le_length
  refine ⟨tokL l, rfl, (fun e => by rw [e] at h; cases h), by omega, runW_nogap _ _, rfl, ?_, ?_, ?_⟩
  · unfold wordAt spaceL
    dsimp only
    split
    · exact .inr rfl
    · exact .inl rfl
  · unfold wordAt hardL
    dsimp only
    omega
  · unfold wordAt hardL
    dsimp only
    omega
theorem wordOK_mono {n m : Nat} {x : S34} (h : wordOK n x) (hnm : n ≤ m) : wordOK m x := by
  obtain ⟨t, h1, h2, h3, h4, h5, h6, h7, h8⟩ := h
  exact ⟨t, h1, h2, by omega, h4, h5, h6, h7, by omega⟩
theorem words_ind {Q : List UInt8 → List S34 → Prop} (h0 : ∀ l, (tokL l).isEmpty = true → Q l []) (h1 : ∀ l, (tokL l).isEmpty = false → Q (restL l) (wordsL (restL l)) → Q l (wordAt l :: wordsL (restL l))) (l : List UInt8) : Q l (wordsL l) := by
  have H : ∀ n (l : List UInt8), l.length ≤ n → Q l (wordsL l) := by
    intro n
    induction n with
    | zero =>
      intro l hl
      have : (tokL l).isEmpty = true := by
        have := rest_len l
        cases ht : tokL l with
        | nil => rfl
        | cons c t => rw [ht] at this; simp at this; omega
      rw [wordsL_nil this]
      exact h0 l this
    | succ n ih =>
      intro l hl
      cases ht : (tokL l).isEmpty with
      | true =>
        rw [wordsL_nil ht]
        exact h0 l ht
      | false =>
        rw [wordsL_cons ht]
        have h2 := rest_len l
        have h3 : (tokL l).length ≠ 0 := fun e => by
          rw [List.length_eq_zero_iff.1 e] at ht
          cases ht
        exact h1 l ht (ih _ (by omega))
  exact H l.length l (Nat.le_refl _)
theorem words_ok (l : List UInt8) : ∀ x ∈ wordsL l, wordOK l.length x := by
  refine words_ind (Q := fun l ws => ∀ x ∈ ws, wordOK l.length x) (fun _ _ x h => by cases h) (fun l ht ih x hx => ?_) l
  rcases List.mem_cons.1 hx with rfl | hx
  · exact wordAt_ok l ht
  · have := rest_len l
    exact wordOK_mono (ih x hx) (by omega)
theorem headL_mem {l : List S34} {Q : S34 → Prop} (h : ∀ x ∈ l, Q x) (h0 : ∀ x, Q x → Q { x with f2 := 0 }) : ∀ x ∈ headL l, Q x := by
  cases l with
  | nil => intro x hx; cases hx
  | cons y l =>
    intro x hx
    rcases List.mem_cons.1 hx with rfl | hx
    · exact h0 y (h y (by simp))
    · exact h x (by simp [hx])
theorem words_ok1 (l : List UInt8) : ∀ x ∈ headL (wordsL l), wordOK l.length x :=
  headL_mem (words_ok l) (fun _ ⟨t, h1, h2, h3, h4, h5, _, h7, h8⟩ => ⟨t, h1, h2, h3, h4, h5, .inl rfl, h7, h8⟩)
theorem wordOK_ok {n : Nat} {x : S34} (h : wordOK n x) (hn : n ≤ 400) : okB x = true ∧ wfT x = true := by
  obtain ⟨t, h1, h2, h3, h4, h5, h6, h7, h8⟩ := h
  have hz : x.f0.size = t.length := by rw [h1, bstr_size]
  have hd : x.f0.data.toList = t := by rw [h1]; rfl
  have he : x.f0.toList.isEmpty = false := by
    rw [Lib.toList_data, hd]
    exact List.isEmpty_eq_false_iff.2 h2
  constructor
  · simp only [okB, badB, Bool.not_eq_true', Bool.or_eq_false_iff, Bool.not_eq_false', beq_iff_eq, Bool.and_eq_false_iff, bne_eq_false_iff_eq, decide_eq_false_iff_not]
    rw [hd]
    exact ⟨h5, he, by omega, h6, by omega, by omega⟩
  · exact decide_eq_true (by omega)
theorem words_right (l : List UInt8) (hl : l.length ≤ 400) : rightL (headL (wordsL l)) = true := by
  unfold rightL
  rw [Bool.and_eq_true]
  refine ⟨List.all_eq_true.2 fun x hx => (wordOK_ok (words_ok1 l x hx) hl).1, decide_eq_true ?_⟩
  rw [headL_len]
  have := wordsL_len l
  omega
theorem words_wf (l : List UInt8) (hl : l.length ≤ 400) : ∀ x ∈ headL (wordsL l), wfT x = true := fun x hx => (wordOK_ok (words_ok1 l x hx) hl).2
theorem text_is (l : List S34) (hl : l.length ≤ 1000) (hw : ∀ x ∈ l, wfT x = true) : word_Text.f l = some (bstr (textL l)) := by
  unfold word_Text.f
  rw [if_pos ⟨hl, List.all_eq_true.2 hw⟩]
end Go.Proofs.Ytnfbfachabdahaa.G
