/- Chapter 18, plainly: the reference's print. Written by mkH8.py. -/
import Derived.Test.YtkmddhljfjjglaaDoorH7
import Derived.Test.YtkmddhljfjjglaaDoorG21
import Derived.Test.YtkmddhljfjjglaaDoorG22
namespace Go.Proofs.YtkmddhljfjjglaaDoor.G
open Go.RowKit Go.Proofs.YtkmddhljfjjglaaDoorW.PrintWords Go.Proofs.YtkmddhljfjjglaaDoorW.PrintLast Go.Proofs.YtkmddhljfjjglaaDoorW.PrintMore

def bstr (l : List UInt8) : ByteArray := ⟨l.toArray⟩
theorem bstr_size (l : List UInt8) : (bstr l).size = l.length := by simp [bstr, ByteArray.size]
theorem bstr_app (l m : List UInt8) : bstr l ++ bstr m = bstr (l ++ m) := by
  apply ByteArray.ext
  simp [bstr]
theorem at_rounds {α : Type} {f : Nat → Option α} (hm : ∀ k, LeO (f k) (f (k + 1))) {k n : Nat} {a : α} (h : k ≤ n) (hk : f k = some a) : f n = some a := by
  obtain ⟨d, rfl⟩ : ∃ d, n = k + d := ⟨n - k, by omega⟩
  clear h
  induction d with
  | zero => exact hk
  | succ d ih => exact hm _ _ ih
theorem dec_len (n : Nat) (h : n ≤ 18446744073709551615) : (Lib.decDigits n).length ≤ 20 := by
  rw [Lib.decDigits_length]
  exact Lib.nDigits_le20 n (by omega)
theorem dec_more {n : Nat} (h : ¬ n < 10) : Lib.decDigits n = Lib.decDigits (n / 10) ++ Lib.decDigits (n % 10) := by
  rw [Lib.decDigits_one (i := n % 10) (by omega)]
  conv => lhs; rw [Lib.decDigits, dif_neg h]
theorem dig_one (k n : Nat) (h : n < 10) : gutterref01_Digits.f (k + 1) n = some (bstr (Lib.decDigits n)) := by
  rw [gutterref01_Digits.f, if_pos (by omega), i64w (by omega) (by omega), Lib.decDigits_one h]
  have e : (48 + (n : Int)) % 256 = ((48 + n : Nat) : Int) := by omega
  rw [e]
  rfl
theorem ref_digits (k : Nat) : ∀ n : Nat, n < 10 ^ (k + 1) → n ≤ 9223372036854775807 → gutterref01_Digits.f (k + 1) n = some (bstr (Lib.decDigits n)) := by
  induction k with
  | zero => exact fun n h _ => dig_one 0 n (by omega)
  | succ k ih =>
    intro n h hn
    by_cases h10 : n < 10
    · exact dig_one _ n h10
    · have hd : n / 10 < 10 ^ (k + 1) := by rw [Nat.pow_succ] at h; omega
      have e1 := Aside0.mk (show wrap64 ((n : Int).tdiv 10) = ((n / 10 : Nat) : Int) from by
        rw [Int.tdiv_eq_ediv_of_nonneg (by omega), i64w (by omega) (by omega)]; omega)
      have e2 : (n : Int).tmod 10 = ((n % 10 : Nat) : Int) := by
        rw [Int.tmod_eq_emod_of_nonneg (by omega)]; omega
      have z1 := dec_len (n / 10) (by omega)
      have z2 := dec_len (n % 10) (by omega)
      rw [gutterref01_Digits.f, if_neg (by omega), e1.out, e2, ih (n / 10) hd (by omega), Option.bind_some, dig_one k (n % 10) (by omega), Option.bind_some]
      rw [if_pos (by rw [bstr_size, bstr_size]; omega), bstr_app, ← dec_more h10]
theorem digits_at (k : Nat) (hk : 20 ≤ k) (n : Nat) (hn : n ≤ 9223372036854775807) : gutterref01_Digits.f k n = some (bstr (Lib.decDigits n)) :=
  at_rounds (fun k => gutterref01_Digits.mono _ k) hk (ref_digits 19 n (by omega) hn)
theorem number_eq (k : Nat) (hk : 20 ≤ k) (n : Int) (hw : r64B n = true) : gutterref18_number.f k n = some (bstr (Lib.itoa n)) := by
  simp only [r64B, Bool.and_eq_true, decide_eq_true_eq] at hw
  rw [gutterref18_number.f]
  by_cases h0 : n ≥ 0
  · obtain ⟨u, rfl⟩ : ∃ u : Nat, n = u := ⟨n.toNat, by omega⟩
    rw [if_pos h0, digits_at k hk u (by omega), Option.bind_some, Lib.itoa_nonneg]
  · obtain ⟨u, rfl⟩ : ∃ u : Nat, n = -(u : Int) := ⟨n.natAbs, by omega⟩
    have em : Int.tmod (-(u : Int)) 10 = -((u % 10 : Nat) : Int) := by
      rw [Int.neg_tmod, Int.tmod_eq_emod_of_nonneg (by omega)]
      omega
    have ed : Int.tdiv (-(u : Int)) 10 = -((u / 10 : Nat) : Int) := by
      rw [Int.neg_tdiv, Int.tdiv_eq_ediv_of_nonneg (by omega)]
      omega
    have w1 := Aside0.mk (show wrap64 (- -((u % 10 : Nat) : Int)) = ((u % 10 : Nat) : Int) from by rw [i64w (by omega) (by omega)]; omega)
    have w2 := Aside0.mk (show wrap64 (-((u / 10 : Nat) : Int)) = -((u / 10 : Nat) : Int) from i64w (by omega) (by omega))
    have w3 := Aside0.mk (show wrap64 (- -((u / 10 : Nat) : Int)) = ((u / 10 : Nat) : Int) from by rw [i64w (by omega) (by omega)]; omega)
    have z1 := dec_len (u / 10) (by omega)
    have z2 := dec_len (u % 10) (by omega)
    rw [if_neg h0, em, ed, w1.out, w2.out, w3.out, digits_at k hk (u % 10) (by omega), Option.bind_some, Lib.itoa_neg u (by omega)]
    by_cases h10 : u / 10 = 0
    · rw [if_pos (by omega), if_pos (by rw [bstr_size]; omega)]
      have e : u % 10 = u := by omega
      rw [e]
      show some (bstr [45] ++ bstr (Lib.decDigits u)) = _
      rw [bstr_app]
      rfl
    · rw [if_neg (by omega), digits_at k hk (u / 10) (by omega), Option.bind_some, if_pos (by rw [bstr_size]; omega)]
      have e45 : (⟨#[45]⟩ : ByteArray) ++ bstr (Lib.decDigits (u / 10)) = bstr (45 :: Lib.decDigits (u / 10)) := bstr_app [45] _
      rw [e45, if_pos (by rw [bstr_size, bstr_size, List.length_cons]; omega), bstr_app, List.cons_append, ← dec_more (by omega)]
end Go.Proofs.YtkmddhljfjjglaaDoor.G
