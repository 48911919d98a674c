/- Chapter 1: digits. -/
import Derived.Test.YtlpkjjeihbdocaaDoorF9
namespace Go.Proofs.YtlpkjjeihbdocaaDoor.G
open Go.RowKit Go.Shelf Go.Proofs.YtlpkjjeihbdocaaDoorW.PrintWords Go.Proofs.YtlpkjjeihbdocaaDoorW.PrintLast Go.Proofs.YtlpkjjeihbdocaaDoorW.PrintMore

/-- A number's digits. -/
def digB (n : Nat) : List UInt8 := if n < 10 then [UInt8.ofNat (48 + n)] else digB (n / 10) ++ [UInt8.ofNat (48 + n % 10)]
theorem digB_one {n : Nat} (h : n < 10) : digB n = [UInt8.ofNat (48 + n)] := by rw [digB, if_pos h]
theorem digB_more {n : Nat} (h : ¬ n < 10) : digB n = digB (n / 10) ++ digB (n % 10) := by rw [digB, if_neg h, digB_one (n := n % 10) (by omega)]
theorem digB_len (k : Nat) : ∀ n, n < 10 ^ (k + 1) → (digB n).length ≤ k + 1 := by
  induction k with
  | zero => intro n h; rw [digB_one (by omega)]; simp
  | succ k ih =>
    intro n h
    by_cases h10 : n < 10
    · rw [digB_one h10]; simp
    · rw [digB_more h10, digB_one (n := n % 10) (by omega)]
      have := ih (n / 10) (by rw [Nat.pow_succ] at h; omega)
      simp; omega
theorem enc_small {x : Int} (h0 : 0 ≤ x) (h1 : x < 128) : Utf8.encode x = ⟨#[UInt8.ofNat x.toNat]⟩ := by
  have hv : Utf8.valid x = true := by unfold Utf8.valid; simp; omega
  unfold Utf8.encode
  simp only [hv, if_true]
  rw [if_pos (by omega)]
theorem str_app (a b : List UInt8) : (⟨a.toArray⟩ : ByteArray) ++ ⟨b.toArray⟩ = ⟨(a ++ b).toArray⟩ := by
  apply ByteArray.ext
  simp
def dstr (n : Nat) : ByteArray := ⟨(digB n).toArray⟩
theorem dstr_size (n : Nat) : (dstr n).size = (digB n).length := by simp [dstr, ByteArray.size]
theorem dstr_one {n : Nat} (h : n < 10) : Utf8.encode (48 + (n : Int)) = dstr n := by
  rw [enc_small (by omega) (by omega), dstr, digB_one h]
  congr
theorem dstr_more {n : Nat} (h : ¬ n < 10) : dstr (n / 10) ++ dstr (n % 10) = dstr n := by
  unfold dstr
  rw [str_app, ← digB_more h]
theorem digits_any (n : Nat) : ∀ (w : World), n < 18446744073709551616 → Calls Tryd.prog 32 #[.int .u64 n] w fun e w' => e = .returned (.string (dstr n)) ∧ w = w' := by
  induction n using Nat.strongRecOn with
  | _ n ih =>
  intro w hn
  by_cases h : n < 10
  · have HD := Aside0.mk (dstr_one h)
    have h2 : (n : Int) < 10 := by omega
    have h3 : decide ((n : Int) < 10) = true := decide_eq_true h2
    clear ih hn
    go_enter Tryd.func32, Tryd.ntmps32
    go_wp2
    go_ret
    rw [HD.out]
    exact ⟨rfl, rfl⟩
  · have HD := Aside0.mk (dstr_more h)
    have h3 : decide ((n : Int) < 10) = false := decide_eq_false (by omega)
    have I1 := Aside0.mk (fun w' => (show Calls Tryd.prog 32 #[.int .u64 ((n : Int) / 10)] w' _ from ih (n / 10) (by omega) w' (by omega)))
    have I2 := Aside0.mk (fun w' => (show Calls Tryd.prog 32 #[.int .u64 ((n : Int) % 10)] w' _ from ih (n % 10) (by omega) w' (by omega)))
    have l1 : (dstr (n / 10)).size ≤ 20 := by rw [dstr_size]; exact digB_len 19 _ (by omega)
    have l2 : (dstr (n % 10)).size ≤ 20 := by rw [dstr_size]; exact digB_len 19 _ (by omega)
    have c8b0 := eq_false (show ¬ 9223372036854775807 < (dstr (n / 10)).size + (dstr (n % 10)).size by omega)
    clear ih l1 l2
    go_enter Tryd.func32, Tryd.ntmps32
    go_wp2_with fail
    refine (I1.out _).mono ?_
    rintro e w' ⟨rfl, rfl⟩
    go_wp2_with fail
    refine (I2.out _).mono ?_
    rintro e w' ⟨rfl, rfl⟩
    go_wp2
    go_ret
    rw [HD.out]
    exact ⟨rfl, rfl⟩
end Go.Proofs.YtlpkjjeihbdocaaDoor.G
