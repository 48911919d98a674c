/- Chapter 1: a length's text. -/
import Derived.Test.YtlpkjjeihbdocaaDoorF11
namespace Go.Proofs.YtlpkjjeihbdocaaDoor.G
open Go.RowKit Go.Shelf Go.Proofs.YtlpkjjeihbdocaaDoorW.PrintWords Go.Proofs.YtlpkjjeihbdocaaDoorW.PrintLast Go.Proofs.YtlpkjjeihbdocaaDoorW.PrintMore

/-- What is behind the sign. -/
def printN (n : Nat) : List UInt8 := digB (n / 64) ++ (if n % 64 = 0 then [] else 46 :: restF 6 (n % 64))
def printB (a : Int) : List UInt8 := (if a < 0 then [45] else []) ++ printN a.natAbs
theorem printN_len {n : Nat} (h : n ≤ 1073741824) : (printN n).length ≤ 15 := by
  unfold printN
  have h1 := digB_len 7 (n / 64) (by omega)
  have h2 := restF_len 6 (n % 64) (by omega)
  rw [List.length_append]
  split <;> simp <;> omega
def bstr (l : List UInt8) : ByteArray := ⟨l.toArray⟩
theorem bstr_size (l : List UInt8) : (bstr l).size = l.length := by simp [bstr, ByteArray.size]
theorem bstr_app (l m : List UInt8) : bstr l ++ bstr m = bstr (l ++ m) := str_app l m

set_option maxRecDepth 100000 in
theorem print_pos (n : Nat) (w : World) (hn : n ≤ 1073741824) (hm : n % 64 = 0) : Calls Tryd.prog 12 #[.int .i64 n] w fun e w' => e = .returned (.tuple #[.string (bstr (printN n)), .int .i64 0]) ∧ w = w' := by
  have HL := Aside0.mk (show lenB n = true by simp [lenB]; omega)
  have hd := Aside0.mk (fun w' => (show Calls Tryd.prog 32 #[.int .u64 ((n : Int) / 64)] w' _ from digits_any (n / 64) w' (by omega)))
  have ha := and63 n (by omega)
  have hs : decide ((n : Int) < 0) = false := by simp
  have e0 : (⟨#[]⟩ : ByteArray) ++ dstr (n / 64) = dstr (n / 64) := str_app [] _
  have z1 : (dstr (n / 64)).size ≤ 8 := by rw [dstr_size]; exact digB_len 7 _ (by omega)
  have HP := Aside0.mk (show printN n = digB (n / 64) by simp [printN, hm])
  rw [hm] at ha
  have f1 := eq_false (show ¬ 9223372036854775807 < (dstr (n / 64)).size by omega)
  clear z1 hm
  go_enter Tryd.func12, Tryd.ntmps12
  go_wp2_with (first | (go_at_call 17; with_reducible refine (right_any _ _).mono ?_; rintro e w' ⟨rfl, rfl⟩; rw [HL.out]) | (go_at_call 32; refine (hd.out _).mono ?_; rintro e w' ⟨rfl, rfl⟩))
  go_ret2
  rw [HP.out]
  exact ⟨rfl, rfl⟩
set_option maxRecDepth 100000 in
theorem print_pos_rest (n : Nat) (w : World) (hn : n ≤ 1073741824) (hm : n % 64 ≠ 0) : Calls Tryd.prog 12 #[.int .i64 n] w fun e w' => e = .returned (.tuple #[.string (bstr (printN n)), .int .i64 0]) ∧ w = w' := by
  have HL := Aside0.mk (show lenB n = true by simp [lenB]; omega)
  have hd := Aside0.mk (fun w' => (show Calls Tryd.prog 32 #[.int .u64 ((n : Int) / 64)] w' _ from digits_any (n / 64) w' (by omega)))
  have hr := Aside0.mk (fun w' => rest_any n w' (by omega))
  have ha := and63 n (by omega)
  have hs : decide ((n : Int) < 0) = false := by simp
  have e0 : (⟨#[]⟩ : ByteArray) ++ dstr (n / 64) = dstr (n / 64) := str_app [] _
  have z1 : (dstr (n / 64)).size ≤ 8 := by rw [dstr_size]; exact digB_len 7 _ (by omega)
  have z2 : (dotted (restF 6 (n % 64))).size ≤ 7 := by rw [dotted_size]; have := restF_len 6 (n % 64) (by omega); omega
  have HP := Aside0.mk (show printN n = digB (n / 64) ++ (46 :: restF 6 (n % 64)) by simp [printN, hm])
  have f1 := eq_false (show ¬ 9223372036854775807 < (dstr (n / 64)).size by omega)
  have f2 := eq_false (show ¬ 9223372036854775807 < (dstr (n / 64)).size + (dotted (restF 6 (n % 64))).size by omega)
  have b0 : ((((n % 64 : Nat) : Int)) == 0) = false := by simp; omega
  have b1 : ((((n % 64 : Nat) : Int)) != 0) = true := by simp; omega
  have b2 : ((((n : Nat) : Int) % 64) == 0) = false := by simp; omega
  have b3 : ((((n : Nat) : Int) % 64) != 0) = true := by simp; omega
  clear z1 z2 hm
  go_enter Tryd.func12, Tryd.ntmps12
  go_wp2_with (first | (go_at_call 17; with_reducible refine (right_any _ _).mono ?_; rintro e w' ⟨rfl, rfl⟩; rw [HL.out]) | (go_at_call 32; refine (hd.out _).mono ?_; rintro e w' ⟨rfl, rfl⟩) | (go_at_call 33; refine (hr.out _).mono ?_; rintro e w' ⟨rfl, rfl⟩))
  go_ret2
  rw [HP.out]
  rw [show bstr (digB (n / 64) ++ 46 :: restF 6 (n % 64)) = dstr (n / 64) ++ dotted (restF 6 (n % 64)) from (str_app _ _).symm]
  exact ⟨rfl, rfl⟩
set_option maxRecDepth 100000 in
theorem print_neg (n : Nat) (w : World) (hn : n ≤ 1073741824) (h1 : 1 ≤ n) (hm : n % 64 = 0) : Calls Tryd.prog 12 #[.int .i64 (-(n : Int))] w fun e w' => e = .returned (.tuple #[.string (bstr (45 :: printN n)), .int .i64 0]) ∧ w = w' := by
  have HL := Aside0.mk (show lenB (-(n : Int)) = true by simp [lenB]; omega)
  have hd := Aside0.mk (fun w' => (show Calls Tryd.prog 32 #[.int .u64 ((n : Int) / 64)] w' _ from digits_any (n / 64) w' (by omega)))
  have ha := and63 n (by omega)
  have hs : decide ((-(n : Int) : Int) < 0) = true := by simp; omega
  have hi1 : 1 ≤ (n : Int) := by omega
  have e0 := str_app [45] (digB (n / 64))
  have z1 : (dstr (n / 64)).size ≤ 8 := by rw [dstr_size]; exact digB_len 7 _ (by omega)
  have HP := Aside0.mk (show printN n = digB (n / 64) by simp [printN, hm])
  rw [hm] at ha
  have f1 := eq_false (show ¬ 9223372036854775807 < 1 + (dstr (n / 64)).size by omega)
  clear z1 hm
  go_enter Tryd.func12, Tryd.ntmps12
  go_wp2_with (first | (go_at_call 17; with_reducible refine (right_any _ _).mono ?_; rintro e w' ⟨rfl, rfl⟩; rw [HL.out]) | (go_at_call 32; refine (hd.out _).mono ?_; rintro e w' ⟨rfl, rfl⟩))
  go_ret2
  rw [HP.out]
  rw [show bstr (45 :: digB (n / 64)) = (⟨#[45]⟩ : ByteArray) ++ dstr (n / 64) from (str_app [45] _).symm]
  exact ⟨rfl, rfl⟩
set_option maxRecDepth 100000 in
theorem print_neg_rest (n : Nat) (w : World) (hn : n ≤ 1073741824) (h1 : 1 ≤ n) (hm : n % 64 ≠ 0) : Calls Tryd.prog 12 #[.int .i64 (-(n : Int))] w fun e w' => e = .returned (.tuple #[.string (bstr (45 :: printN n)), .int .i64 0]) ∧ w = w' := by
  have HL := Aside0.mk (show lenB (-(n : Int)) = true by simp [lenB]; omega)
  have hd := Aside0.mk (fun w' => (show Calls Tryd.prog 32 #[.int .u64 ((n : Int) / 64)] w' _ from digits_any (n / 64) w' (by omega)))
  have hr := Aside0.mk (fun w' => rest_any n w' (by omega))
  have ha := and63 n (by omega)
  have hs : decide ((-(n : Int) : Int) < 0) = true := by simp; omega
  have hi1 : 1 ≤ (n : Int) := by omega
  have e0 := str_app [45] (digB (n / 64))
  have z1 : (dstr (n / 64)).size ≤ 8 := by rw [dstr_size]; exact digB_len 7 _ (by omega)
  have z2 : (dotted (restF 6 (n % 64))).size ≤ 7 := by rw [dotted_size]; have := restF_len 6 (n % 64) (by omega); omega
  have HP := Aside0.mk (show printN n = digB (n / 64) ++ (46 :: restF 6 (n % 64)) by simp [printN, hm])
  have f1 := eq_false (show ¬ 9223372036854775807 < 1 + (dstr (n / 64)).size by omega)
  have f2 := eq_false (show ¬ 9223372036854775807 < ((⟨#[45]⟩ : ByteArray) ++ dstr (n / 64)).size + (dotted (restF 6 (n % 64))).size by rw [ByteArray.size_append]; show ¬ 9223372036854775807 < 1 + _ + _; omega)
  have f3 := eq_false (show ¬ 9223372036854775807 < 1 + (dstr (n / 64)).size + (dotted (restF 6 (n % 64))).size by omega)
  have b0 : ((((n % 64 : Nat) : Int)) == 0) = false := by simp; omega
  have b1 : ((((n % 64 : Nat) : Int)) != 0) = true := by simp; omega
  have b2 : ((((n : Nat) : Int) % 64) == 0) = false := by simp; omega
  have b3 : ((((n : Nat) : Int) % 64) != 0) = true := by simp; omega
  clear z1 z2 hm
  go_enter Tryd.func12, Tryd.ntmps12
  go_wp2_with (first | (go_at_call 17; with_reducible refine (right_any _ _).mono ?_; rintro e w' ⟨rfl, rfl⟩; rw [HL.out]) | (go_at_call 32; refine (hd.out _).mono ?_; rintro e w' ⟨rfl, rfl⟩) | (go_at_call 33; refine (hr.out _).mono ?_; rintro e w' ⟨rfl, rfl⟩))
  go_ret2
  rw [HP.out]
  rw [show bstr (45 :: (digB (n / 64) ++ 46 :: restF 6 (n % 64))) = (⟨#[45]⟩ : ByteArray) ++ dstr (n / 64) ++ dotted (restF 6 (n % 64)) from by rw [show (⟨#[45]⟩ : ByteArray) ++ dstr (n / 64) = bstr (45 :: digB (n / 64)) from str_app [45] _]; exact (str_app (45 :: digB (n / 64)) _).symm]
  exact ⟨rfl, rfl⟩
theorem print_no (a : Int) (w : World) (ha : lenB a = false) (sa sb sc : Addr) (hS : Sent w sa sb sc) : Calls Tryd.prog 12 #[.int .i64 a] w fun e w' => e = .returned (.tuple #[.string (bstr []), .int .i64 10]) ∧ w = w' := by
  have HL := Aside0.mk ha
  have HS := Aside0.mk hS
  have g0 := hS.1
  clear ha hS
  go_enter Tryd.func12, Tryd.ntmps12
  go_wp2_with (first | (go_at_call 17; with_reducible refine (right_any _ _).mono ?_; rintro e w' ⟨rfl, rfl⟩; rw [HL.out]) | (go_at_call 31; refine (told_over sa sb sc _ HS.out).mono ?_; rintro e w2 ⟨rfl, rfl⟩))
  go_ret2
  exact ⟨rfl, rfl⟩
def printZ (a : Int) : List UInt8 × Int := if lenB a then (printB a, 0) else ([], 10)
theorem print_any (a : Int) (w : World) (sa sb sc : Addr) (hS : Sent w sa sb sc) : Calls Tryd.prog 12 #[.int .i64 a] w fun e w' => e = .returned (.tuple #[.string (bstr (printZ a).1), .int .i64 (printZ a).2]) ∧ w = w' := by
  unfold printZ
  by_cases hl : lenB a = true
  · rw [if_pos hl]
    simp only [lenB, Bool.and_eq_true, decide_eq_true_eq] at hl
    by_cases hs : a < 0
    · obtain ⟨n, rfl⟩ : ∃ n : Nat, a = -(n : Int) := ⟨a.natAbs, by omega⟩
      have e : printB (-(n : Int)) = 45 :: printN n := by rw [printB, if_pos hs]; simp
      rw [e]
      by_cases hm : n % 64 = 0
      · exact print_neg n w (by omega) (by omega) hm
      · exact print_neg_rest n w (by omega) (by omega) hm
    · obtain ⟨n, rfl⟩ : ∃ n : Nat, a = (n : Int) := ⟨a.natAbs, by omega⟩
      have e : printB (n : Int) = printN n := by rw [printB, if_neg hs]; simp
      rw [e]
      by_cases hm : n % 64 = 0
      · exact print_pos n w (by omega) hm
      · exact print_pos_rest n w (by omega) hm
  · rw [if_neg hl]
    exact print_no a w (Bool.eq_false_iff.mpr hl) sa sb sc hS
def unit_Print.f (a0 : Int) : Option (ByteArray × Int) := some (bstr (printZ a0).1, (printZ a0).2)
theorem unit_Print.calls (a0 : Int) (r1 : ByteArray) (r2 : Int) (w : World) (h : unit_Print.f a0 = some (r1, r2)) (hG : GOK w) :
    Calls Tryd.prog 12 #[.int .i64 a0] w fun e w' => e = .returned (.tuple #[.string r1, .int .i64 r2]) ∧ Below w.heap.size w w' := by
  obtain ⟨sa, sb, sc, hS⟩ := hG
  obtain ⟨rfl, rfl⟩ := Prod.mk.inj (Option.some.inj h)
  refine (print_any a0 w sa sb sc hS).mono ?_
  rintro e w' ⟨rfl, rfl⟩
  exact ⟨rfl, Below.refl _ _⟩
end Go.Proofs.YtlpkjjeihbdocaaDoor.G
