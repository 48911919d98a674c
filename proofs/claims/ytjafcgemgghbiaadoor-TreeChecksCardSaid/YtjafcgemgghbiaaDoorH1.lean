/- Chapter 5: the known order is shown. Written by tmpl.py out of H1.tl. -/
import Derived.Test.YtjafcgemgghbiaaDoorH0
import Derived.Test.YtjafcgemgghbiaaDoorG2
namespace Go.Proofs.YtjafcgemgghbiaaDoor.G
open Go Go.RowKit Go.Proofs.YtjafcgemgghbiaaDoorW.PrintWords
theorem ints_l (a b : List Int) (hl : a.length = b.length) (hm : a.length ≤ 1000000) : ∀ (k i : Nat), i ≤ a.length → a.length < k + i → gutterref05_Ints.l0 k a b i = some (decide (a.drop i = b.drop i))
  | 0, i, h1, h2 => by omega
  | k + 1, i, h1, h2 => by
    rw [gutterref05_Ints.l0]
    by_cases hi : i < a.length
    · have e : wrap64 ((i : Int) + 1) = ((i + 1 : Nat) : Int) := by rw [i64_in (by omega) (by omega)]; omega
      rw [if_pos (by omega), if_pos (by omega), if_pos (by omega), e, ints_l a b hl hm k (i + 1) (by omega) (by omega)]
      have ha : rd a i = a[i] := by simp [rd, List.getElem?_eq_getElem hi]
      have hb : rd b i = b[i]'(by omega) := by simp [rd, List.getElem?_eq_getElem (show i < b.length by omega)]
      rw [ha, hb, List.drop_eq_getElem_cons hi, List.drop_eq_getElem_cons (show i < b.length by omega)]
      by_cases hx : a[i] = b[i]'(by omega)
      · rw [if_pos hx]
        congr 1
        rw [decide_eq_decide, hx]
        exact ⟨fun h => by rw [h], fun h => (List.cons.inj h).2⟩
      · rw [if_neg hx, decide_eq_false (fun h => hx (List.cons.inj h).1)]
    · rw [if_neg (by omega), List.drop_of_length_le (by omega), List.drop_of_length_le (by omega)]
      simp
theorem ints_f (a b : List Int) (k : Nat) (hk : a.length < k) (hm : a.length ≤ 1000000) : gutterref05_Ints.f k a b = some (decide (a = b)) := by
  unfold gutterref05_Ints.f
  by_cases h : a.length = b.length
  · rw [if_pos (by omega)]
    have := ints_l a b h hm k 0 (by omega) (by omega)
    simpa using this
  · rw [if_neg (by omega)]
    have : a ≠ b := fun e => h (by rw [e])
    simp [this]
theorem shown_f (k : Nat) (hk : 5 ≤ k) : gutterlaw05_shown.f k = some true := by
  have h1 := t4_order
  have h2 := t4_deep
  have h3 := t4_kids
  have h4 := t2_check
  have h5 := ints_f [0, 1, 3, 2] [0, 1, 3, 2] k (by simp; omega) (by simp)
  unfold t4 blkN at h1 h2 h3
  unfold blkN at h4
  unfold gutterlaw05_shown.f gutterlaw05_block.f
  simp only [Option.bind_some, h1, h2, h3, h4, h5]
  simp
end Go.Proofs.YtjafcgemgghbiaaDoor.G
