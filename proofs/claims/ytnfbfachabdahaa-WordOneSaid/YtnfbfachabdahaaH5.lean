/- Chapter 7, plain: WordOne. -/
import Derived.Test.YtnfbfachabdahaaH3
import Derived.Test.YtnfbfachabdahaaG18
namespace Go.Proofs.Ytnfbfachabdahaa.G
open Go.RowKit Go.Shelf Go.Proofs.YtnfbfachabdahaaW.PrintWords Go.Proofs.YtnfbfachabdahaaW.PrintLast Go.Proofs.YtnfbfachabdahaaW.PrintMore

/-- No blank, no line end, no dash. -/
def bare (c : UInt8) : Prop := gapB c = false ∧ (c.toNat : Int) ≠ 45
theorem runW_all : ∀ (l : List UInt8) (s : UInt8 × Bool), (s.2 = true → (s.1.toNat : Int) ≠ 45) → (∀ c ∈ l, bare c) → runW s l = (l, [])
  | [], _, _, _ => rfl
  | c :: l, s, hs, h => by
    have hc := h c (by simp)
    have hst : stW s c = some (c, true) := stW_yes hc.1 (by
      cases h2 : s.2 with
      | false => rfl
      | true => rw [beq_eq_false_iff_ne.2 (hs h2)]; rfl)
    rw [runW_some hst, runW_all l (c, true) (fun _ => hc.2) (fun d hd => h d (by simp [hd]))]
theorem one_word (l : List UInt8) (hl : l ≠ []) (h : ∀ c ∈ l, bare c) : wordsL l = [⟨bstr l, widthL l, 0, 0⟩] := by
  obtain ⟨h1, h2⟩ := gaps_ahead (g := []) (r := l) (fun _ h => by cases h) (fun c t e => (h c (by simp [e])).1)
  rw [List.nil_append] at h1 h2
  have hr : runW (0, false) l = (l, []) := runW_all l (0, false) (fun h => by cases h) h
  have ht : tokL l = l := by unfold tokL; rw [h2, hr]
  have he : restL l = [] := by unfold restL; rw [h2, hr]
  rw [wordsL_cons (by rw [ht]; exact List.isEmpty_eq_false_iff.2 hl), he, wordsL_nil rfl]
  unfold wordAt spaceL hardL
  rw [ht, h1]
  rfl
theorem text_is (l : List S34) (hl : l.length ≤ 1000) (hw : ∀ x ∈ l, wfT x = true) : word_Text.f l = some (bstr (textL l)) := by
  unfold word_Text.f
  rw [if_pos ⟨hl, List.all_eq_true.2 hw⟩]
theorem one_end (a : ByteArray) (ha : a.size ≤ 410) (h : ∀ c ∈ a.data.toList, bare c) (k : Nat) (hk : 100 ≤ k) :
    ((word_Words.f a).bind fun bt257 => (if bt257.2 = 0 then (gutterlaw07_WordOne.j1 k a true bt257.1 (a.toList == ([] : List UInt8))) else (gutterlaw07_WordOne.j1 k a true bt257.1 true))) = some true := by
  obtain ⟨k, rfl⟩ : ∃ m, k = m + 1 := ⟨k - 1, by omega⟩
  have hz : a.data.toList.length = a.size := Array.length_toList
  rw [words_is a (by omega), Option.bind_some]
  simp only [gutterlaw07_WordOne.j1]
  by_cases h4 : a.size ≤ 400
  · have hr : wordsR a = (headL (wordsL a.data.toList), 0) := by unfold wordsR; rw [if_pos h4]
    rw [hr, Lib.toList_data]
    dsimp only
    rw [if_pos rfl]
    by_cases he : a.data.toList = []
    · rw [he]
      rfl
    · rw [if_neg (by simpa using he), one_word _ he h]
      have hx : (⟨bstr a.data.toList, widthL a.data.toList, 0, 0⟩ : S34).f0.toList = a.data.toList := by rw [Lib.toList_data]; rfl
      have hok : okB ⟨bstr a.data.toList, widthL a.data.toList, 0, 0⟩ = true ∧ wfT ⟨bstr a.data.toList, widthL a.data.toList, 0, 0⟩ = true :=
        wordOK_ok (n := 400) ⟨a.data.toList, rfl, he, by omega, fun c hc => (h c hc).1, rfl, .inl rfl, Int.le_refl _, by show (0 : Int) ≤ _; omega⟩ (Nat.le_refl _)
      have hwf : ∀ x ∈ [(⟨bstr a.data.toList, widthL a.data.toList, 0, 0⟩ : S34)], wfT x = true := fun x hx => by rw [List.mem_singleton.1 hx]; exact hok.2
      have hhead : headL [(⟨bstr a.data.toList, widthL a.data.toList, 0, 0⟩ : S34)] = [⟨bstr a.data.toList, widthL a.data.toList, 0, 0⟩] := rfl
      have hrd : rd_T34 [(⟨bstr a.data.toList, widthL a.data.toList, 0, 0⟩ : S34)] 0 = ⟨bstr a.data.toList, widthL a.data.toList, 0, 0⟩ := rfl
      have hright : rightL [(⟨bstr a.data.toList, widthL a.data.toList, 0, 0⟩ : S34)] = true := by
        unfold rightL
        rw [List.all_cons, hok.1]
        rfl
      have htext : textL [(⟨bstr a.data.toList, widthL a.data.toList, 0, 0⟩ : S34)] = a.data.toList := by
        simp [textL, wordT, padN]
        rfl
      rw [hhead, if_pos trivial]
      have h1 : (([(⟨bstr a.data.toList, widthL a.data.toList, 0, 0⟩ : S34)].length : Nat) : Int) = 1 := rfl
      rw [h1, if_pos rfl, if_pos (by decide), width_is a (by omega), Option.bind_some, hrd, hx]
      dsimp only
      rw [if_pos (by simp), text_is _ (by simp) hwf, Option.bind_some, htext, Lib.toList_data, if_pos (show (bstr a.data.toList).data.toList = a.data.toList from rfl), Most_is _ (by simp) hwf k (by simp; omega), Option.bind_some, Least_is _ (by simp) k (by simp; omega), Option.bind_some]
      have hm : mostL [(⟨bstr a.data.toList, widthL a.data.toList, 0, 0⟩ : S34)] = leastL [⟨bstr a.data.toList, widthL a.data.toList, 0, 0⟩] := by
        show (if rightL [(⟨bstr a.data.toList, widthL a.data.toList, 0, 0⟩ : S34)] then mxL (widthL a.data.toList) [widthL a.data.toList] else 0) = mxL (widthL a.data.toList) [widthL a.data.toList]
        rw [if_pos hright]
      rw [hm, beq_self_eq_true]
  · have hr : wordsR a = ([], 70) := by unfold wordsR; rw [if_neg h4]
    rw [hr, if_neg (by decide)]
    rfl
theorem one_l0 (a : ByteArray) (ha : a.size ≤ 410) (j : Nat) : ∀ (k i : Nat), i ≤ a.size → a.size - i = j → j + 200 ≤ k → (∀ c ∈ a.data.toList.take i, bare c) → gutterlaw07_WordOne.l0 k a true i = some true := by
  have hz : a.data.toList.length = a.size := Array.length_toList
  induction j with
  | zero =>
    intro k i hi hj hk hb
    obtain ⟨k, rfl⟩ : ∃ m, k = m + 1 := ⟨k - 1, by omega⟩
    simp only [gutterlaw07_WordOne.l0]
    rw [if_neg (by omega)]
    rw [List.take_of_length_le (by omega)] at hb
    exact one_end a ha hb k (by omega)
  | succ j ih =>
    intro k i hi hj hk hb
    obtain ⟨k, rfl⟩ : ∃ m, k = m + 1 := ⟨k - 1, by omega⟩
    have hil : i < a.data.toList.length := by omega
    have hw : wrap64 ((i : Int) + 1) = ((i + 1 : Nat) : Int) := wrap_nat i 1 (by omega)
    simp only [gutterlaw07_WordOne.l0]
    rw [if_pos (by omega), if_pos (by omega), bt_bstr a i hil, hw]
    split
    · rfl
    · rename_i h32
      split
      · rfl
      · rename_i h10
        split
        · rfl
        · rename_i h45
          refine ih k (i + 1) (by omega) (by omega) (by omega) (fun c hc => ?_)
          rw [List.take_succ_eq_append_getElem hil] at hc
          rcases List.mem_append.1 hc with hc | hc
          · exact hb c hc
          · rw [List.mem_singleton.1 hc]
            refine ⟨?_, h45⟩
            unfold gapB
            rw [beq_eq_false_iff_ne.2 h32, beq_eq_false_iff_ne.2 h10]
            rfl
theorem WordOne : gutterlaw07_WordOne.Pure := by
  intro a0 _
  obtain ⟨k, hk⟩ : ∃ k, 2000 ≤ k := ⟨2000, Nat.le_refl _⟩
  refine ⟨k, ?_⟩
  have h0 := cutL_size a0
  unfold gutterlaw07_WordOne.f
  rw [shown_k k (by omega), Option.bind_some, cut_is, Option.bind_some]
  exact one_l0 _ h0 (cutL a0).size k 0 (Nat.zero_le _) rfl (by omega) (fun c hc => by simp at hc)
end Go.Proofs.Ytnfbfachabdahaa.G
