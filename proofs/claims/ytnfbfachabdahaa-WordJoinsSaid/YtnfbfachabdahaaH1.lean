/- Chapter 7, plain: what the head tells, cuts, the document's words are the program's, lists that are the same. -/
import Derived.Test.YtnfbfachabdahaaG4
import Derived.Test.YtnfbfachabdahaaG5
import Derived.Test.YtnfbfachabdahaaG8
import Derived.Test.YtnfbfachabdahaaG9
import Derived.Test.YtnfbfachabdahaaG13
namespace Go.Proofs.Ytnfbfachabdahaa.G
open Go.RowKit Go.Shelf Go.Proofs.YtnfbfachabdahaaW.PrintWords Go.Proofs.YtnfbfachabdahaaW.PrintLast Go.Proofs.YtnfbfachabdahaaW.PrintMore

theorem shown_ok : gutterlaw07_shown.f 10 = some true := by
  unfold gutterlaw07_shown.f
  simp only [Lib.toList_data]
  kernel_rfl
theorem shown_k (k : Nat) (hk : 10 ≤ k) : gutterlaw07_shown.f k = some true := at_rounds (fun k => gutterlaw07_shown.mono k) hk shown_ok
/-- The first four hundred and ten bytes. -/
def cutL (a : ByteArray) : ByteArray := a.extract 0 410
theorem cut_is (a : ByteArray) : gutterlaw07_cut.f a = some (cutL a) := by
  unfold gutterlaw07_cut.f
  have h : mn (a.size : Int) 410 = ((min a.size 410 : Nat) : Int) := by unfold mn; split <;> omega
  rw [h, if_pos (by omega), if_pos (by omega), Int.toNat_natCast]
  unfold cutL
  congr 1
  apply ByteArray.ext
  apply Array.ext'
  have hz : a.data.toList.length = a.size := Array.length_toList
  simp only [ByteArray.data_extract, Array.toList_extract, List.extract_eq_take_drop, Nat.sub_zero, List.drop_zero]
  rcases Nat.le_total a.size 410 with h | h
  · rw [Nat.min_eq_left h, List.take_of_length_le (by omega), List.take_of_length_le (by omega)]
  · rw [Nat.min_eq_right h]
theorem cutL_size (a : ByteArray) : (cutL a).size ≤ 410 := by
  unfold cutL
  simp only [ByteArray.size_extract]
  omega

theorem wrap_nat (a b : Nat) (h : a + b ≤ 1000000) : wrap64 ((a : Int) + (b : Int)) = ((a + b : Nat) : Int) := by rw [wrap_in (by omega) (by omega)]; omega
theorem refWidth_bstr (t : List UInt8) (h : t.length ≤ 1000000) : gutterref07_Width.f (bstr t) = some (widthL t) := by
  unfold gutterref07_Width.f
  rw [if_pos (by rw [bstr_size]; exact h)]
  rfl
theorem ext_list (a : ByteArray) (i j : Nat) : (a.extract i j).data.toList = (a.data.toList.take j).drop i := by
  simp [List.extract_eq_take_drop, List.drop_take]
theorem gap_is (c : UInt8) : gutterref07_gap.f (c.toNat : Int) = some (gapB c) := by
  unfold gutterref07_gap.f gapB
  by_cases h : (c.toNat : Int) = 32
  · rw [if_pos h, h]; rfl
  · rw [if_neg h, beq_eq_false_iff_ne.2 h, Bool.false_or]
theorem stW_gap {s : UInt8 × Bool} {c : UInt8} (h : gapB c = true) : stW s c = none := by unfold stW; rw [h]; rfl
theorem stW_yes {s : UInt8 × Bool} {c : UInt8} (h : gapB c = false) (h2 : (s.2 && (((s.1.toNat : Int) == 45) && !((c.toNat : Int) == 45))) = false) : stW s c = some (c, true) := by unfold stW; rw [h, h2]; rfl
theorem stW_no {s : UInt8 × Bool} {c : UInt8} (h2 : (s.2 && (((s.1.toNat : Int) == 45) && !((c.toNat : Int) == 45))) = true) : stW s c = none := by unfold stW; rw [h2, Bool.or_true]; rfl
theorem runW_none {s : UInt8 × Bool} {c : UInt8} {l : List UInt8} (h : stW s c = none) : runW s (c :: l) = ([], c :: l) := by rw [runW, h]
theorem runW_some {s s' : UInt8 × Bool} {c : UInt8} {l : List UInt8} (h : stW s c = some s') : runW s (c :: l) = (c :: (runW s' l).1, (runW s' l).2) := by rw [runW, h]
theorem runW_len (s : UInt8 × Bool) (l : List UInt8) : (runW s l).1.length ≤ l.length := by
  have := congrArg List.length (runW_app s l)
  rw [List.length_append] at this
  omega
theorem piece_l0 (a : ByteArray) (hl : a.size ≤ 1000) (j : Nat) : ∀ (k i : Nat) (s : UInt8 × Bool), i ≤ a.size → a.size - i = j → 2 * j + 2 < k →
    (∀ h : i < a.data.toList.length, gapB a.data.toList[i] = false → stW s a.data.toList[i] = some (a.data.toList[i], true)) →
    gutterref07_piece.l0 k a (i : Int) = some (((i + (runW s (a.data.toList.drop i)).1.length : Nat)) : Int) := by
  have hz : a.data.toList.length = a.size := Array.length_toList
  induction j with
  | zero =>
    intro k i s hi hj hk hc
    obtain ⟨k, rfl⟩ : ∃ m, k = m + 2 := ⟨k - 2, by omega⟩
    simp only [gutterref07_piece.l0, gutterref07_piece.j1]
    rw [if_neg (by omega), if_neg (by decide), List.drop_of_length_le (by omega)]
    rfl
  | succ j ih =>
    intro k i s hi hj hk hc
    obtain ⟨k, rfl⟩ : ∃ m, k = m + 2 := ⟨k - 2, by omega⟩
    have hil : i < a.data.toList.length := by omega
    have hw : wrap64 ((i : Int) + 1) = ((i + 1 : Nat) : Int) := by rw [wrap_in (by omega) (by omega)]; omega
    have hw2 : wrap64 (((i + 1 : Nat) : Int) - 1) = (i : Int) := by rw [wrap_in (by omega) (by omega)]; omega
    have hcc := hc hil
    rw [drop_at _ i hil]
    simp only [gutterref07_piece.l0, gutterref07_piece.j1]
    rw [if_pos (by omega), if_pos (by omega), bt_bstr a i hil, gap_is, Option.bind_some]
    cases hg : gapB a.data.toList[i]
    · have hst := hcc hg
      rw [runW_some hst, if_pos (by decide), hw, hw2, if_pos (by omega), if_pos (by omega), bt_bstr a i hil]
      have step : ∀ (h45 : ∀ h : i + 1 < a.data.toList.length, gapB a.data.toList[i + 1] = false → (((a.data.toList[i].toNat : Int) == 45) && !((a.data.toList[i + 1].toNat : Int) == 45)) = false),
          gutterref07_piece.l0 k a ((i + 1 : Nat) : Int) = some (((i + (a.data.toList[i] :: (runW (a.data.toList[i], true) (a.data.toList.drop (i + 1))).1).length : Nat)) : Int) := by
        intro h45
        rw [ih k (i + 1) (a.data.toList[i], true) (by omega) (by omega) (by omega) (fun h hg' => stW_yes hg' (by rw [Bool.true_and]; exact h45 h hg'))]
        rw [List.length_cons]
        congr 2
        omega
      by_cases h45 : (a.data.toList[i].toNat : Int) = 45
      · rw [if_pos h45]
        by_cases hlt : i + 1 < a.data.toList.length
        · rw [if_pos (by omega), if_pos (by omega), bt_bstr a (i + 1) hlt, gap_is, Option.bind_some]
          cases hg1 : gapB a.data.toList[i + 1]
          · rw [if_neg (by decide)]
            by_cases h1 : (a.data.toList[i + 1].toNat : Int) = 45
            · rw [if_pos h1]
              exact step (fun h _ => by rw [beq_iff_eq.2 h1]; simp)
            · rw [if_neg h1, drop_at _ (i + 1) hlt, runW_none (stW_no (by rw [Bool.true_and, beq_iff_eq.2 h45, beq_eq_false_iff_ne.2 h1]; rfl))]
              rfl
          · rw [if_pos rfl]
            exact step (fun h hg' => by rw [hg1] at hg'; cases hg')
        · rw [if_neg (by omega)]
          exact step (fun h _ => absurd h hlt)
      · rw [if_neg h45]
        exact step (fun h _ => by rw [beq_eq_false_iff_ne.2 h45]; rfl)
    · rw [if_neg (by decide), runW_none (stW_gap hg)]
      rfl
theorem piece_is (a : ByteArray) (hl : a.size ≤ 1000) (k : Nat) (hk : 2 * a.size + 2 < k) : gutterref07_piece.f k a = some ((runW (0, false) a.data.toList).1.length : Int) := by
  have h := piece_l0 a hl a.size k 0 (0, false) (Nat.zero_le _) rfl hk (fun h hg => stW_yes hg rfl)
  rw [List.drop_zero, Nat.zero_add] at h
  exact h

/-! the words -/
theorem gaps_ahead {g r : List UInt8} (hg : ∀ c ∈ g, gapB c = true) (hr : ∀ c t, r = c :: t → gapB c = false) : aheadL (g ++ r) = g ∧ afterL (g ++ r) = r := by
  induction g with
  | nil =>
    cases r with
    | nil => exact ⟨rfl, rfl⟩
    | cons c t =>
      have := hr c t rfl
      simp [aheadL, afterL, this]
  | cons c g ih =>
    have h1 := hg c (by simp)
    have h2 := ih (fun c hc => hg c (by simp [hc]))
    unfold aheadL afterL at h2 ⊢
    simp [h1, h2]
def spaceG (g : List UInt8) : Int := if Lib.hasSuffix g [32] then 256 else 0
theorem spaceG_nil : spaceG [] = 0 := rfl
theorem spaceG_snoc (g : List UInt8) (c : UInt8) : spaceG (g ++ [c]) = if c = 32 then 256 else 0 := by
  unfold spaceG Lib.hasSuffix
  congr 1
  rw [eq_iff_iff, List.isSuffixOf_iff_suffix]
  constructor
  · rintro ⟨t, ht⟩
    have := (List.append_inj' ht rfl).2
    simpa using this.symm
  · rintro rfl
    exact ⟨g, rfl⟩
theorem count_snoc (g : List UInt8) (c : UInt8) : (Lib.countByte (g ++ [c]) 10 : Int) = Lib.countByte g 10 + if c = 10 then 1 else 0 := by
  unfold Lib.countByte
  rw [List.count_append]
  by_cases h : c = 10
  · subst h; simp
  · rw [List.count_singleton]
    simp [h]
theorem toNat_eq (c : UInt8) (n : Nat) (hn : n < 256) : (c.toNat : Int) = n ↔ c = UInt8.ofNat n := by
  constructor
  · intro h
    have h' : c.toNat = n := by omega
    rw [← h']
    exact (UInt8.ofNat_toNat).symm
  · rintro rfl
    rw [UInt8.toNat_ofNat_of_lt' (by show n < 256; exact hn)]
def fixO (out l : List S34) : List S34 := if out.length = 0 then headL l else l
theorem arith_w {i t s j n k o : Nat} (h1 : t ≤ s - i) (ht : t ≠ 0) (hlt : i < s) (hn : n ≤ j + 1) (hj : s - i = n) (hk : n + 2 * s + 10 ≤ k + 1) (hs : s ≤ 400) (ho : o ≤ i) :
    i + t ≤ 1000000 ∧ s - (i + t) ≤ j ∧ i + t ≤ s ∧ s - (i + t) + 2 * s + 10 ≤ k ∧ o + 1 ≤ i + t ∧ (i : Int) ≤ ((i + t : Nat) : Int) ∧ ((i + t : Nat) : Int) ≤ (s : Int) ∧ o < 3518437208883 := by omega
set_option maxHeartbeats 1600000 in
theorem words_l0 (a : ByteArray) (hl : a.size ≤ 400) (j : Nat) : ∀ (n k i : Nat) (out : List S34) (g : List UInt8), n ≤ j → i ≤ a.size → a.size - i = n → n + 2 * a.size + 10 ≤ k → out.length ≤ i → g.length ≤ i → (∀ c ∈ g, gapB c = true) →
    gutterref07_Words.l0 k a out (spaceG g) (Lib.countByte g 10) i = some (out ++ fixO out (wordsL (g ++ a.data.toList.drop i)), 0) := by
  have hz : a.data.toList.length = a.size := Array.length_toList
  induction j with
  | zero =>
    intro n k i out g hn hi hj hk ho hgl hg
    obtain ⟨k, rfl⟩ : ∃ m, k = m + 1 := ⟨k - 1, by omega⟩
    simp only [gutterref07_Words.l0]
    rw [if_neg (by omega), List.drop_of_length_le (by omega)]
    have h := gaps_ahead (r := []) hg (fun _ _ h => by cases h)
    have ht : tokL (g ++ []) = [] := by unfold tokL; rw [h.2]; rfl
    rw [wordsL_nil (by rw [ht]; rfl)]
    simp [fixO, headL]
  | succ j ih =>
    intro n k i out g hn hi hj hk ho hgl hg
    obtain ⟨k, rfl⟩ : ∃ m, k = m + 1 := ⟨k - 1, by omega⟩
    by_cases hlt : i < a.size
    · have hil : i < a.data.toList.length := by omega
      have hw : wrap64 ((i : Int) + 1) = ((i + 1 : Nat) : Int) := by rw [wrap_in (by omega) (by omega)]; omega
      have hcnt : Lib.countByte g 10 ≤ g.length := List.count_le_length
      simp only [gutterref07_Words.l0]
      rw [if_pos (by omega), if_pos (by omega), bt_bstr a i hil, drop_at _ i hil]
      generalize hcc : a.data.toList[i] = c at *
      by_cases h10 : (c.toNat : Int) = 10
      · have hc : c = 10 := (toNat_eq c 10 (by decide)).1 h10
        have h := ih (n - 1) k (i + 1) out (g ++ [c]) (by omega) (by omega) (by omega) (by omega) (by omega) (by simp; omega) (fun x hx => by
          rcases List.mem_append.1 hx with hx | hx
          · exact hg x hx
          · rw [List.mem_singleton.1 hx, hc]; rfl)
        rw [spaceG_snoc, count_snoc, hc, if_neg (by decide), if_pos rfl, List.append_assoc] at h
        rw [if_pos h10, hw, wrap_in (by omega) (by omega), hc]
        exact h
      · rw [if_neg h10]
        by_cases h32 : (c.toNat : Int) = 32
        · have hc : c = 32 := (toNat_eq c 32 (by decide)).1 h32
          have h := ih (n - 1) k (i + 1) out (g ++ [c]) (by omega) (by omega) (by omega) (by omega) (by omega) (by simp; omega) (fun x hx => by
            rcases List.mem_append.1 hx with hx | hx
            · exact hg x hx
            · rw [List.mem_singleton.1 hx, hc]; rfl)
          rw [spaceG_snoc, count_snoc, hc, if_pos rfl, if_neg (by decide), Int.add_zero, List.append_assoc] at h
          rw [if_pos h32, hw, hc]
          exact h
        · rw [if_neg h32]
          have hgc : gapB c = false := by
            unfold gapB
            rw [beq_eq_false_iff_ne.2 h32, beq_eq_false_iff_ne.2 h10]
            rfl
          have hes : (a.extract i a.size).size ≤ 1000 := by rw [ByteArray.size_extract]; omega
          have hel : (a.extract i a.size).data.toList = c :: a.data.toList.drop (i + 1) := by
            rw [ext_list, List.take_of_length_le (by omega), drop_at _ i hil, hcc]
          obtain ⟨h1, h2⟩ := gaps_ahead (r := c :: a.data.toList.drop (i + 1)) hg (fun c' t h => by injection h with h _; rw [← h]; exact hgc)
          have ht : tokL (g ++ c :: a.data.toList.drop (i + 1)) = (runW (0, false) (c :: a.data.toList.drop (i + 1))).1 := by unfold tokL; rw [h2]
          have hre : restL (g ++ c :: a.data.toList.drop (i + 1)) = (runW (0, false) (c :: a.data.toList.drop (i + 1))).2 := by unfold restL; rw [h2]
          have happ := runW_app (0, false) (c :: a.data.toList.drop (i + 1))
          have hrl := runW_len (0, false) (c :: a.data.toList.drop (i + 1))
          have hne : (runW (0, false) (c :: a.data.toList.drop (i + 1))).1.length ≠ 0 := by rw [runW_some (stW_yes hgc rfl)]; simp
          rw [if_pos (by omega), Int.toNat_natCast, piece_is _ hes k (by rw [ByteArray.size_extract]; omega), Option.bind_some, hel]
          have hS : spaceL (g ++ c :: a.data.toList.drop (i + 1)) = spaceG g := by unfold spaceL spaceG; rw [h1]
          have hH : hardL (g ++ c :: a.data.toList.drop (i + 1)) = Lib.countByte g 10 := by unfold hardL; rw [h1]
          rw [wordsL_cons (by rw [ht]; exact List.isEmpty_eq_false_iff.2 (fun e => hne (by rw [e]; rfl))), hre]
          have hwa : wordAt (g ++ c :: a.data.toList.drop (i + 1)) = ⟨bstr (runW (0, false) (c :: a.data.toList.drop (i + 1))).1, widthL (runW (0, false) (c :: a.data.toList.drop (i + 1))).1, spaceG g, Lib.countByte g 10⟩ := by
            unfold wordAt
            rw [hS, hH, ht]
          rw [hwa]
          generalize hR : runW (0, false) (c :: a.data.toList.drop (i + 1)) = R at *
          obtain ⟨t, r⟩ := R
          dsimp only at *
          have hda : c :: a.data.toList.drop (i + 1) = a.data.toList.drop i := by rw [drop_at _ i hil, hcc]
          rw [hda] at happ hrl
          have hlen : (a.data.toList.drop i).length = a.size - i := by rw [List.length_drop, hz]
          have htx : a.extract i (i + t.length) = bstr t := by
            apply ByteArray.ext
            apply Array.ext'
            have : (a.extract i (i + t.length)).data.toList = t := by
              rw [ext_list, List.drop_take, Nat.add_sub_cancel_left, ← happ, List.take_left]
            rw [this]
            rfl
          have hr : r = a.data.toList.drop (i + t.length) := by
            rw [← List.drop_drop, ← happ, List.drop_left]
          have q00 : t.length ≤ a.size - i := hlen ▸ hrl
          obtain ⟨q0, q1, q2, q3, q4, q5, q6, q7⟩ := arith_w q00 hne hlt hn hj hk hl ho
          have hws := wrap_nat i t.length q0
          have hwd := refWidth_bstr t (Nat.le_trans (Nat.le_add_left _ _) q0)
          rw [hws]
          have q8 : ∀ x : S34, (out ++ [x]).length ≤ i + t.length := fun x => by rw [List.length_append]; exact q4
          have hI := fun x => ih (a.size - (i + t.length)) k (i + t.length) (out ++ [x]) [] q1 q2 rfl q3 (q8 x) (Nat.zero_le _) (fun _ h => nomatch h)
          have hI2 : ∀ x, gutterref07_Words.l0 k a (out ++ [x]) 0 0 ((i + t.length : Nat) : Int) = some (out ++ x :: wordsL r, 0) := by
            intro x
            have h := hI x
            rw [spaceG_nil, show ((Lib.countByte [] 10 : Nat) : Int) = 0 from rfl, List.nil_append, ← hr, fixO, if_neg (by simp), List.append_assoc, List.singleton_append] at h
            exact h
          by_cases hout : (out.length : Int) = 0
          · rw [if_pos hout, if_pos q5, if_pos q6, Int.toNat_natCast, htx, hwd, Option.bind_some, if_pos q7, hI2, fixO, if_pos (Int.ofNat.inj hout)]
            rfl
          · rw [if_neg hout, if_pos q5, if_pos q6, Int.toNat_natCast, htx, hwd, Option.bind_some, if_pos q7, hI2, fixO, if_neg (fun e => hout (by rw [e]; rfl))]
    · simp only [gutterref07_Words.l0]
      rw [if_neg (by omega), List.drop_of_length_le (by omega)]
      have h := gaps_ahead (r := []) hg (fun _ _ h => by cases h)
      have ht : tokL (g ++ []) = [] := by unfold tokL; rw [h.2]; rfl
      rw [wordsL_nil (by rw [ht]; rfl)]
      simp [fixO, headL]
theorem refWords_is (a : ByteArray) (hl : a.size ≤ 1000000) (k : Nat) (hk : 3 * 400 + 10 ≤ k) : gutterref07_Words.f k a = word_Words.f a := by
  unfold gutterref07_Words.f word_Words.f
  by_cases h : a.size ≤ 400
  · rw [if_neg (by omega), if_pos h]
    have := words_l0 a h a.size a.size k 0 [] [] (Nat.le_refl _) (Nat.zero_le _) rfl (by omega) (Nat.zero_le _) (Nat.zero_le _) (fun _ h => by cases h)
    rw [List.drop_zero, List.nil_append] at this
    exact this
  · rw [if_pos (by omega), if_neg h, if_pos hl]

/-! lists that are the same -/
def eqS (x y : S34) : Bool := !(!(x.f0.toList == y.f0.toList) || (!(x.f1 == y.f1) || (!(x.f2 == y.f2) || !(x.f3 == y.f3))))
def sameL : List S34 → List S34 → Bool
  | x :: l, y :: m => eqS x y && sameL l m
  | _, _ => true
theorem eqS_refl (x : S34) : eqS x x = true := by simp [eqS]
theorem sameL_refl (l : List S34) : sameL l l = true := by
  induction l with
  | nil => rfl
  | cons x l ih => simp [sameL, eqS_refl, ih]
theorem drop34 (l : List S34) (i : Nat) (h : i < l.length) : l.drop i = rd_T34 l i :: l.drop (i + 1) := by
  rw [List.drop_eq_getElem_cons h]
  simp [rd_T34, h]
theorem refSame_l0 (l m : List S34) (he : l.length = m.length) (hl : l.length ≤ 100000) (j : Nat) : ∀ (k i : Nat), i ≤ l.length → l.length - i = j → j < k →
    gutterref07_Same.l0 k l m i = some (sameL (l.drop i) (m.drop i)) := by
  induction j with
  | zero =>
    intro k i hi hj hk
    obtain ⟨k, rfl⟩ : ∃ m, k = m + 1 := ⟨k - 1, by omega⟩
    simp only [gutterref07_Same.l0]
    rw [if_neg (by omega), List.drop_of_length_le (by omega)]
    rfl
  | succ j ih =>
    intro k i hi hj hk
    obtain ⟨k, rfl⟩ : ∃ m, k = m + 1 := ⟨k - 1, by omega⟩
    have hw : wrap64 ((i : Int) + 1) = ((i + 1 : Nat) : Int) := by rw [wrap_in (by omega) (by omega)]; omega
    simp only [gutterref07_Same.l0]
    rw [if_pos (by omega), if_pos (by omega), if_pos (by omega), hw, ih k (i + 1) (by omega) (by omega) (by omega), drop34 l i (by omega), drop34 m i (by omega), sameL]
    unfold eqS
    split
    · rename_i h; rw [h]; rfl
    · rename_i h; rw [Bool.eq_false_iff.2 h]; rfl
theorem Same_l0 (l m : List S34) (he : l.length = m.length) (hl : l.length ≤ 100000) (j : Nat) : ∀ (k i : Nat), i ≤ l.length → l.length - i = j → j < k →
    word_Same.l0 k m l l.length i = some (sameL (l.drop i) (m.drop i)) := by
  induction j with
  | zero =>
    intro k i hi hj hk
    obtain ⟨k, rfl⟩ : ∃ m, k = m + 1 := ⟨k - 1, by omega⟩
    simp only [word_Same.l0]
    rw [if_neg (by omega), List.drop_of_length_le (by omega)]
    rfl
  | succ j ih =>
    intro k i hi hj hk
    obtain ⟨k, rfl⟩ : ∃ m, k = m + 1 := ⟨k - 1, by omega⟩
    have hw : wrap64 ((i : Int) + 1) = ((i + 1 : Nat) : Int) := by rw [wrap_in (by omega) (by omega)]; omega
    simp only [word_Same.l0]
    rw [if_pos (by omega), if_pos (by omega), if_pos (by omega), if_pos (by omega), hw, ih k (i + 1) (by omega) (by omega) (by omega), drop34 l i (by omega), drop34 m i (by omega), sameL]
    unfold eqS
    split
    · rename_i h; rw [h]; rfl
    · rename_i h; rw [Bool.eq_false_iff.2 h]; rfl
def sameW (l m : List S34) : Bool := decide (l.length = m.length) && sameL l m
theorem refSame_is (l m : List S34) (hl : l.length ≤ 100000) (k : Nat) (hk : l.length < k) : gutterref07_Same.f k l m = some (sameW l m) := by
  unfold gutterref07_Same.f sameW
  by_cases h : l.length = m.length
  · rw [if_pos (by omega), decide_eq_true h, Bool.true_and]
    exact refSame_l0 l m h hl l.length k 0 (by omega) rfl hk
  · rw [if_neg (by omega), decide_eq_false h, Bool.false_and]
theorem Same_is (l m : List S34) (hl : l.length ≤ 100000) (k : Nat) (hk : l.length < k) : word_Same.f k l m = some (sameW l m) := by
  unfold word_Same.f sameW
  by_cases h : l.length = m.length
  · rw [if_pos (by omega), decide_eq_true h, Bool.true_and]
    exact Same_l0 l m h hl l.length k 0 (by omega) rfl hk
  · rw [if_neg (by omega), decide_eq_false h, Bool.false_and]
theorem sameW_refl (l : List S34) : sameW l l = true := by simp [sameW, sameL_refl]
end Go.Proofs.Ytnfbfachabdahaa.G
