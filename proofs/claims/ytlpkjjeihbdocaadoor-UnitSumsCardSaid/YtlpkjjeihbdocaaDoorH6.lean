/- Chapter 1, plain: many together. -/
import Derived.Test.YtlpkjjeihbdocaaDoorH12
import Derived.Test.YtlpkjjeihbdocaaDoorG20
namespace Go.Proofs.YtlpkjjeihbdocaaDoor.G
open Go.RowKit Go.Proofs.YtlpkjjeihbdocaaDoorW.PrintWords Go.Proofs.YtlpkjjeihbdocaaDoorW.PrintLast Go.Proofs.YtlpkjjeihbdocaaDoorW.PrintMore

/-- What some are together. -/
def sumZ (l : List Int) : Int × Int := if l.all lenB then resZ (sumG l) else (0, 10)
theorem sum_f {l : List Int} (h : l.length ≤ 1000) : unit_Sum.f l = some (sumZ l) := by rw [unit_Sum.f, if_pos h]; rfl
theorem rd_at (l : List Int) (i : Nat) (h : i < l.length) : rd l i = l[i] := by simp [rd, h]
theorem ref_sum_l0 (l : List Int) (hl : l.length ≤ 1000) (d : Nat) : ∀ (k i : Nat), i ≤ l.length → l.length - i = d → d < k → (l.take i).all lenB = true → gutterref01_Sum.l0 k l (sumG (l.take i)) i = some (sumZ l) := by
  induction d with
  | zero =>
    intro k i hi hd hk ha
    obtain ⟨k, rfl⟩ : ∃ m, k = m + 1 := ⟨k - 1, by omega⟩
    obtain rfl : i = l.length := by omega
    rw [List.take_length] at ha ⊢
    simp only [gutterref01_Sum.l0]
    rw [if_neg (by omega), ref_checked, Option.bind_some, sumZ, if_pos ha]
  | succ d ih =>
    intro k i hi hd hk ha
    obtain ⟨k, rfl⟩ : ∃ m, k = m + 1 := ⟨k - 1, by omega⟩
    simp only [gutterref01_Sum.l0]
    rw [if_pos (by omega), if_pos (by omega), ref_right, Option.bind_some]
    have ht := take_rd l i (by omega)
    by_cases hb : lenB (rd l i) = true
    · have hin := sumG_in (l.take i) ha
      have hb2 := (lenB_iff _).1 hb
      have hle : ((l.take i).length : Int) ≤ 1000 := by rw [List.length_take]; omega
      rw [if_pos hb, i64_in (x := sumG (l.take i) + rd l i) (by omega) (by omega), ← sumG_snoc, ← ht, i64_in (x := (i : Int) + 1) (by omega) (by omega)]
      exact ih k (i + 1) (by omega) (by omega) (by omega) (by rw [ht, List.all_append, ha]; simpa using hb)
    · rw [if_neg hb, sumZ, if_neg]
      intro h
      rw [List.all_eq_true] at h
      rw [rd_at l i (by omega)] at hb
      exact hb (h _ (List.getElem_mem _))
theorem ref_sum (l : List Int) (hl : l.length ≤ 1000) (k : Nat) (hk : l.length < k) : gutterref01_Sum.f k l = some (sumZ l) :=
  ref_sum_l0 l hl l.length k 0 (by omega) (by omega) hk rfl
theorem UnitSums : gutterlaw01_UnitSums.Pure := by
  intro l _ _ _
  refine ⟨101, ?_⟩
  have hm : 0 ≤ mn (l.length : Int) 100 ∧ mn (l.length : Int) 100 ≤ l.length ∧ mn (l.length : Int) 100 ≤ 100 := by unfold mn; split <;> omega
  unfold gutterlaw01_UnitSums.f
  rw [shown_ok, Option.bind_some, if_pos hm.1, if_pos hm.2.1, Option.bind_some]
  have hle : (l.take (mn (l.length : Int) 100).toNat).length ≤ 100 := by rw [List.length_take]; omega
  generalize l.take (mn (l.length : Int) 100).toNat = m at *
  rw [sum_f (by omega), ref_sum m (by omega) 101 (by omega)]
  simp
end Go.Proofs.YtlpkjjeihbdocaaDoor.G
