/- Chapter 1, plain: the known texts; quotients. -/
import Derived.Test.YtlpkjjeihbdocaaDoorH1
import Derived.Test.YtlpkjjeihbdocaaDoorG1
namespace Go.Proofs.YtlpkjjeihbdocaaDoor.G
open Go.RowKit Go.Proofs.YtlpkjjeihbdocaaDoorW.PrintWords Go.Proofs.YtlpkjjeihbdocaaDoorW.PrintLast Go.Proofs.YtlpkjjeihbdocaaDoorW.PrintMore

theorem text800 : printB 800 = [49, 50, 46, 53] := by
  rw [printB, if_neg (by decide), printN, digF_eq 3 _ (by decide), restK_eq 6 _ (by decide)]
  decide
theorem textM1 : printB (-1) = [45, 48, 46, 48, 49, 53, 54, 50, 53] := by
  rw [printB, if_pos (by decide), printN, digF_eq 3 _ (by decide), restK_eq 6 _ (by decide)]
  decide
theorem parse_f {l : List UInt8} (h : l.length ≤ 1000) : unit_Parse.f (bstr l) = some (parseZ l) := by
  unfold unit_Parse.f
  rw [if_pos (by rw [bstr_size]; exact h), bstr_list]
theorem shown_ok : gutterlaw01_shown.f = some true := by
  have h1 : unit_Print.f 800 = some (bstr [49, 50, 46, 53], 0) := by rw [unit_Print.f, printZ_len (by decide), text800]
  have h2 : unit_Parse.f (⟨#[45, 48, 46, 48, 49, 53, 54, 50, 53]⟩ : ByteArray) = some (-1, 0) := by
    show unit_Parse.f (bstr [45, 48, 46, 48, 49, 53, 54, 50, 53]) = _
    rw [parse_f (by decide), ← textM1, parse_print (by decide)]
  have h3 : unit_Div.f (-7) 2 = some (-4, 0) := by decide
  have h4 : unit_Up.f (-7) 2 = some (-3, 0) := by decide
  have h5 : unit_Add.f 1073741824 1 = some (0, 10) := by decide
  have h6 : unit_Div.f 1 0 = some (0, 11) := by decide
  unfold gutterlaw01_shown.f
  rw [h1, h2, h3, h4, h5, h6]
  have e : (bstr [49, 50, 46, 53]).toList = [49, 50, 46, 53] := by rw [Lib.toList_data, bstr_list]
  simp [e]
theorem wf64 {a : Int} (h : (Lit.int .i64 a).wf = true) : r64 a := by
  have h1 : (decide (-9223372036854775808 ≤ a) && decide (a ≤ 9223372036854775807)) = true := h
  simpa [r64] using h1
theorem div_f {a n : Int} (h : r64 n) : unit_Div.f a n = some (if lenB a then (if n = 0 then (0, 11) else (divZ a n, 0)) else (0, 10)) := by rw [unit_Div.f, if_pos h]
/-- One by n, upwards. -/
def upZ (a n : Int) : Int := if (a.tmod n != 0) = true then divZ a n + 1 else divZ a n
theorem up_f {a n : Int} (h : r64 n) : unit_Up.f a n = some (if lenB a then (if n = 0 then (0, 11) else (upZ a n, 0)) else (0, 10)) := by rw [unit_Up.f, if_pos h]; rfl
theorem tmod_sign {a n : Int} (h : a.tmod n ≠ 0) : (a.tmod n < 0) = (a < 0) := by
  apply propext
  by_cases ha : 0 ≤ a
  · have := Int.tmod_nonneg n ha
    omega
  · have h2 := Int.tmod_nonneg n (a := -a) (by omega)
    rw [Int.neg_tmod] at h2
    omega
theorem div_neg (a n : Int) : divZ a n = -upZ (-a) n := by
  unfold upZ divZ
  rw [Int.neg_tmod, Int.neg_tdiv]
  generalize a.tmod n = m
  generalize a.tdiv n = q
  by_cases h0 : m = 0
  · subst h0; simp
  · have h1 : (m != 0) = true := by simp [h0]
    have h2 : (-m != 0) = true := by simp [h0]
    rw [h1, h2]
    by_cases h3 : m < 0
    · have h4 : ¬ -m < 0 := by omega
      by_cases h5 : n < 0 <;> simp [h3, h5] <;> omega
    · have h4 : -m < 0 := by omega
      by_cases h5 : n < 0 <;> simp [h3, h5] <;> omega
/-- What is left of a quotient. -/
theorem div_off {a n : Int} (hn : n ≠ 0) : (0 < n → 0 ≤ a - divZ a n * n ∧ a - divZ a n * n < n) ∧ (n < 0 → a - divZ a n * n ≤ 0 ∧ n < a - divZ a n * n) := by
  have h1 := Int.mul_tdiv_add_tmod a n
  have h2 : (a.tmod n).natAbs < n.natAbs := by rw [Int.natAbs_tmod]; exact Nat.mod_lt _ (by omega)
  unfold divZ
  generalize a.tmod n = m at *
  generalize a.tdiv n = q at *
  have h3 : q * n = n * q := Int.mul_comm _ _
  have h4 : (q - 1) * n = n * q - n := by rw [Int.sub_mul, h3]; omega
  by_cases hc : (m != 0 && (decide (m < 0) != decide (n < 0))) = true
  · rw [if_pos hc, h4]
    simp at hc
    constructor <;> intro hs <;> (have h5 : (m < 0) = ¬ (n < 0) := by (by_cases a1 : m < 0 <;> by_cases a2 : n < 0 <;> simp_all)) <;> (have h6 : (m < 0) ↔ ¬ (n < 0) := by rw [h5]) <;> omega
  · rw [if_neg hc, h3]
    by_cases h0 : m = 0
    · subst h0; constructor <;> intro hs <;> omega
    · simp [h0] at hc
      constructor <;> intro hs <;> (by_cases a1 : m < 0 <;> by_cases a2 : n < 0 <;> simp_all <;> omega)
theorem up_off {a n : Int} (hn : n ≠ 0) : (0 < n → 0 ≤ upZ a n * n - a ∧ upZ a n * n - a < n) ∧ (n < 0 → upZ a n * n - a ≤ 0 ∧ n < upZ a n * n - a) := by
  have h := div_off (a := -a) hn
  have e : divZ (-a) n = -upZ a n := by rw [div_neg, Int.neg_neg]
  rw [e, Int.neg_mul] at h
  constructor
  · intro hs; have := h.1 hs; omega
  · intro hs; have := h.2 hs; omega
theorem divZ_in {a n : Int} (h : lenB a = true) : -1073741825 ≤ divZ a n ∧ divZ a n ≤ 1073741824 := by
  have := tdiv_in n h
  unfold divZ
  split <;> omega
theorem upZ_in {a n : Int} (h : lenB a = true) : -1073741825 ≤ upZ a n ∧ upZ a n ≤ 1073741825 := by
  have := divZ_in (n := n) h
  unfold upZ
  split <;> omega
end Go.Proofs.YtlpkjjeihbdocaaDoor.G
