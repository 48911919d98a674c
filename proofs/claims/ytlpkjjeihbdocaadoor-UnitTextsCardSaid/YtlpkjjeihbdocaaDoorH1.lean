/- Chapter 1, plain: lengths and texts are one to one. -/
import Derived.Test.YtlpkjjeihbdocaaDoorF16
namespace Go.Proofs.YtlpkjjeihbdocaaDoor.G
open Go.RowKit

theorem dig_nat {n : Nat} (h : n < 10) : (UInt8.ofNat (48 + n)).toNat = 48 + n := by
  rw [UInt8.toNat_ofNat']
  omega
theorem wholeL_snoc (l : List UInt8) (c : UInt8) : ∀ m, wholeL m (l ++ [c]) = (wholeL m l).bind fun x => if 48 ≤ c.toNat ∧ c.toNat ≤ 57 ∧ x ≤ 1073741824 then some (x * 10 + (c.toNat - 48)) else none := by
  induction l with
  | nil => intro m; simp [wholeL]
  | cons a l ih =>
    intro m
    rw [List.cons_append, wholeL, wholeL]
    split
    · exact ih _
    · rfl
theorem wholeL_digB (n : Nat) : n ≤ 1073741824 → wholeL 0 (digB n) = some n := by
  induction n using Nat.strongRecOn with
  | _ n ih =>
    intro hn
    by_cases h : n < 10
    · rw [digB_one h, wholeL, dig_nat h, if_pos (by omega), wholeL]
      congr 1; omega
    · rw [digB, if_neg h, wholeL_snoc, ih (n / 10) (by omega) (by omega), Option.bind_some, dig_nat (by omega), if_pos (by omega)]
      congr 1; omega
theorem digB_digits (n : Nat) : ∀ c ∈ digB n, 48 ≤ c.toNat ∧ c.toNat ≤ 57 := by
  induction n using Nat.strongRecOn with
  | _ n ih =>
    intro c hc
    by_cases h : n < 10
    · rw [digB_one h, List.mem_singleton] at hc
      subst hc
      rw [dig_nat h]; omega
    · rw [digB, if_neg h, List.mem_append, List.mem_singleton] at hc
      rcases hc with hc | rfl
      · exact ih (n / 10) (by omega) c hc
      · rw [dig_nat (by omega)]; omega
theorem digB_no (n : Nat) : ∀ c ∈ digB n, c ≠ 46 ∧ c ≠ 45 := fun c hc => by
  have h := digB_digits n c hc
  constructor <;> (intro e; subst e; revert h; decide)
theorem digB_ne (n : Nat) : digB n ≠ [] := by
  rw [digB]
  split <;> simp
theorem cutL_app (l r : List UInt8) (h : ∀ c ∈ l, c ≠ 46) : cutL (l ++ 46 :: r) = (l, r) := by
  induction l with
  | nil => simp [cutL]
  | cons c l ih => rw [List.cons_append, cutL, if_neg (h c (by simp)), ih (fun c hc => h c (by simp [hc]))]
theorem cutL_no (l : List UInt8) (h : ∀ c ∈ l, c ≠ 46) : cutL l = (l, []) := by
  induction l with
  | nil => simp [cutL]
  | cons c l ih => rw [cutL, if_neg (h c (by simp)), ih (fun c hc => h c (by simp [hc]))]
theorem printN_head (n : Nat) : ∃ c l, printN n = c :: l ∧ c ≠ 45 := by
  unfold printN
  cases h : digB (n / 64) with
  | nil => exact absurd h (digB_ne _)
  | cons c l => exact ⟨c, _, rfl, (digB_no (n / 64) c (by rw [h]; simp)).2⟩
theorem dash_printB (a : Int) : dashL (printB a) = (printN a.natAbs, decide (a < 0)) := by
  unfold printB
  by_cases h : a < 0
  · rw [if_pos h]; simp [dashL, h]
  · rw [if_neg h, List.nil_append]
    obtain ⟨c, l, e, hc⟩ := printN_head a.natAbs
    rw [e]
    simp [dashL, hc, h]
/-- What stands behind the point. -/
def tailN (n : Nat) : List UInt8 := if n % 64 = 0 then [] else restF 6 (n % 64)
theorem cut_printN (n : Nat) : cutL (printN n) = (digB (n / 64), tailN n) := by
  unfold printN tailN
  by_cases h : n % 64 = 0
  · rw [if_pos h, if_pos h, List.append_nil, cutL_no _ (fun c hc => (digB_no _ c hc).1)]
  · rw [if_neg h, if_neg h, cutL_app _ _ (fun c hc => (digB_no _ c hc).1)]
/-- The digits with a bound on the rounds: what the kernel reckons. -/
def digF : Nat → Nat → List UInt8
  | 0, n => [UInt8.ofNat (48 + n)]
  | k + 1, n => if n < 10 then [UInt8.ofNat (48 + n)] else digF k (n / 10) ++ [UInt8.ofNat (48 + n % 10)]
theorem digF_eq (k : Nat) : ∀ n, n < 10 ^ (k + 1) → digB n = digF k n := by
  induction k with
  | zero => intro n h; rw [digB_one (by omega)]; rfl
  | succ k ih =>
    intro n h
    rw [digB, digF]
    by_cases h10 : n < 10
    · rw [if_pos h10, if_pos h10]
    · rw [if_neg h10, if_neg h10, ih (n / 10) (by rw [Nat.pow_succ] at h; omega)]
def restK : Nat → Nat → List UInt8
  | 0, _ => []
  | k + 1, n => if n = 0 then [] else UInt8.ofNat (48 + n * 10 / 64) :: restK k (n * 10 % 64)
theorem restK_eq (k : Nat) : ∀ n, n < 64 → restF k n = restK k n := by
  induction k with
  | zero => intro n _; rfl
  | succ k ih =>
    intro n h
    rw [restF, restK]
    by_cases h0 : n = 0
    · rw [if_pos h0, if_pos h0]
    · rw [if_neg h0, if_neg h0, digB_one (by omega), ih _ (by omega)]; rfl
theorem restK_inj : ∀ i, i < 64 → ∀ j, j < 64 → restK 6 i = restK 6 j → i = j := by decide +kernel
theorem rest_inj {i j : Nat} (hi : i < 64) (hj : j < 64) (h : restF 6 i = restF 6 j) : i = j := by
  rw [restK_eq 6 i hi, restK_eq 6 j hj] at h
  exact restK_inj i hi j hj h
theorem rest_zero : restF 6 0 = [] := by simp [restF]
theorem tailN_eq (n : Nat) : tailN n = restF 6 (n % 64) := by
  unfold tailN
  by_cases h : n % 64 = 0
  · rw [if_pos h, h, rest_zero]
  · rw [if_neg h]
theorem printN_inj {m n : Nat} (hm : m ≤ 1073741824) (hn : n ≤ 1073741824) (h : printN m = printN n) : m = n := by
  have h1 := cut_printN m
  rw [h, cut_printN n, Prod.mk.injEq] at h1
  have e1 := wholeL_digB (m / 64) (by omega)
  rw [← h1.1, wholeL_digB (n / 64) (by omega)] at e1
  have e2 := h1.2
  rw [tailN_eq, tailN_eq] at e2
  have e3 := rest_inj (by omega) (by omega) e2
  have e4 := Option.some.inj e1
  omega
theorem lenB_iff (a : Int) : lenB a = true ↔ -1073741824 ≤ a ∧ a ≤ 1073741824 := by simp [lenB]
theorem printB_inj {a b : Int} (ha : lenB a = true) (hb : lenB b = true) (h : printB a = printB b) : a = b := by
  rw [lenB_iff] at ha hb
  have h1 := dash_printB a
  rw [h, dash_printB b, Prod.mk.injEq] at h1
  have e1 := printN_inj (by omega) (by omega) h1.1
  have e2 : (b < 0) = (a < 0) := by simpa using h1.2
  by_cases h2 : a < 0
  · have h3 : b < 0 := by rw [e2]; exact h2
    omega
  · have h3 : ¬ b < 0 := by rw [e2]; exact h2
    omega
theorem printZ_len {a : Int} (h : lenB a = true) : printZ a = (printB a, 0) := by rw [printZ, if_pos h]
theorem printZ_not {a : Int} (h : lenB a = false) : printZ a = ([], 10) := by rw [printZ, h]; rfl
theorem printZ_ok {a : Int} {l : List UInt8} (h : printZ a = (l, 0)) : lenB a = true ∧ printB a = l := by
  cases hl : lenB a with
  | true => rw [printZ_len hl] at h; exact ⟨rfl, (Prod.mk.inj h).1⟩
  | false => rw [printZ_not hl] at h; exact absurd (Prod.mk.inj h).2 (by decide)
/-- What is read tells the text that was read. -/
theorem parse_sound {l : List UInt8} {a : Int} (h : parseZ l = (a, 0)) : printZ a = (l, 0) := by
  unfold parseZ at h
  split at h
  · exact absurd (Prod.mk.inj h).2 (by decide)
  · split at h
    · exact absurd (Prod.mk.inj h).2 (by decide)
    · rename_i j hj
      have hg := List.find?_some hj
      obtain ⟨rfl, -⟩ := Prod.mk.inj h
      unfold goodJ at hg
      rw [Bool.and_eq_true] at hg
      exact beq_iff_eq.1 hg.2
theorem parse_cases (l : List UInt8) : (∃ a, parseZ l = (a, 0)) ∨ parseZ l = (0, 12) := by
  unfold parseZ
  split
  · exact .inr rfl
  · split
    · exact .inr rfl
    · exact .inl ⟨_, rfl⟩
/-- What is told is read. -/
theorem parse_print {a : Int} (h : lenB a = true) : parseZ (printB a) = (a, 0) := by
  rcases parse_cases (printB a) with ⟨b, hb⟩ | h0
  · obtain ⟨hb1, hb2⟩ := printZ_ok (parse_sound hb)
    rw [hb, printB_inj hb1 h hb2]
  · exfalso
    have hl := (lenB_iff a).1 h
    unfold parseZ at h0
    rw [dash_printB, cut_printN] at h0
    simp only at h0
    rw [wholeL_digB _ (by omega)] at h0
    simp only at h0
    split at h0
    · rename_i hf
      rw [List.find?_eq_none] at hf
      refine hf (a.natAbs % 64) (List.mem_range.2 (by omega)) ?_
      have e : aOf (a.natAbs / 64) (decide (a < 0)) (a.natAbs % 64) = a := by
        unfold aOf
        have e2 : a.natAbs / 64 * 64 + a.natAbs % 64 = a.natAbs := by omega
        rw [e2]
        by_cases hs : a < 0
        · simp only [hs, decide_true, if_true]; omega
        · simp only [hs, decide_false]; simp; omega
      unfold goodJ
      rw [e, printZ_len h, tailN_eq]
      simp
    · exact absurd (Prod.mk.inj h0).2 (by decide)
theorem printB_len {a : Int} (h : lenB a = true) : (printB a).length ≤ 16 := by
  rw [lenB_iff] at h
  have := printN_len (n := a.natAbs) (by omega)
  unfold printB
  rw [List.length_append]
  split <;> simp <;> omega
end Go.Proofs.YtlpkjjeihbdocaaDoor.G
