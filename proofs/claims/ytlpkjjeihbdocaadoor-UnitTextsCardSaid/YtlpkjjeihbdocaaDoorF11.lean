/- Chapter 1: the text of a pixel's parts; a length's text. -/
import Derived.Test.YtlpkjjeihbdocaaDoorF10
namespace Go.Proofs.YtlpkjjeihbdocaaDoor.G
open Go.RowKit Go.Shelf Go.Proofs.YtlpkjjeihbdocaaDoorW.PrintWords Go.Proofs.YtlpkjjeihbdocaaDoorW.PrintLast Go.Proofs.YtlpkjjeihbdocaaDoorW.PrintMore

/-- The digits behind the point, k of them at most. -/
def restF : Nat → Nat → List UInt8
  | 0, _ => []
  | k + 1, n => if n = 0 then [] else digB (n * 10 / 64) ++ restF k (n * 10 % 64)
theorem restF_len (k : Nat) : ∀ n, n < 64 → (restF k n).length ≤ k := by
  induction k with
  | zero => intro n _; simp [restF]
  | succ k ih =>
    intro n h
    unfold restF
    by_cases h0 : n = 0
    · rw [if_pos h0]; simp
    · rw [if_neg h0, digB_one (by omega)]
      have := ih (n * 10 % 64) (by omega)
      simp; omega
def msr (n : Nat) : Nat := 64 / Nat.gcd n 64
theorem msr_down : ∀ n, n < 64 → n ≠ 0 → msr (n * 10 % 64) < msr n := by decide
theorem and63 (n : Nat) (h : n < 18446744073709551616) : bits BinOp.and IntKind.u64 n 63 = ((n % 64 : Nat) : Int) := by
  show IntKind.u64.wrap ((BitVec.ofInt 64 n &&& BitVec.ofInt 64 63).toNat : Int) = _
  rw [BitVec.toNat_and, BitVec.ofInt_natCast]
  have e : (BitVec.ofInt 64 63).toNat = 2 ^ 6 - 1 := rfl
  rw [e, Nat.and_two_pow_sub_one_eq_mod, BitVec.toNat_ofNat]
  have h2 : n % 2 ^ 64 = n := Nat.mod_eq_of_lt h
  rw [h2]
  simp [IntKind.wrap, IntKind.bits, IntKind.signed]
  omega
theorem str_head (l : List UInt8) : (⟨#[46]⟩ : ByteArray) ++ ⟨l.toArray⟩ = ⟨(46 :: l).toArray⟩ := str_app [46] l
def dotted (l : List UInt8) : ByteArray := ⟨(46 :: l).toArray⟩
theorem dotted_size (l : List UInt8) : (dotted l).size = l.length + 1 := by simp [dotted, ByteArray.size]
theorem dotted_app (l m : List UInt8) : dotted l ++ ⟨m.toArray⟩ = dotted (l ++ m) := str_app (46 :: l) m
set_option maxRecDepth 100000 in
theorem rest_any (n : Nat) (w : World) (hn : n < 18446744073709551616) : Calls Tryd.prog 33 #[.int .u64 n] w fun e w' => e = .returned (.string (dotted (restF 6 (n % 64)))) ∧ w = w' := by
  have ha := and63 n hn
  generalize hm : n % 64 = n0
  rw [hm] at ha
  have h0 : n0 < 64 := by omega
  have H6 := Aside0.mk (show n0 * 10 ^ 6 % 64 = 0 by omega)
  clear hm
  go_enter Tryd.func33, Tryd.ntmps33
  go_wp2
  go_loop [0, 3] (fun v s => ∃ (k m : Nat) (pre : List UInt8), m < 64 ∧ k ≤ 6 ∧ v = .int .u64 m ∧ s = .string (dotted pre) ∧ Aside0 (pre ++ restF k m = restF 6 n0) ∧ Aside0 (m * 10 ^ k % 64 = 0) ∧ Aside0 (pre.length + k ≤ 6)) (fun v _ => msr (intOf v).toNat)
  case atStart => exact ⟨6, n0, [], h0, by omega, rfl, rfl, ⟨rfl⟩, H6, ⟨by simp⟩⟩
  case round =>
    obtain ⟨k, m, pre, hm, hk, rfl, rfl, HP, HM, HL⟩ := hrel
    clear ha
    by_cases hz : m = 0
    · subst hz
      have e : pre = restF 6 n0 := by
        rw [← HP.out]
        cases k <;> simp [restF]
      have E := Aside0.mk e
      clear e
      go_wp2
      go_ret
      rw [E.out]
      exact ⟨rfl, rfl⟩
    · obtain ⟨j, rfl⟩ : ∃ j, k = j + 1 := by
        cases k with
        | zero => have := HM.out; omega
        | succ j => exact ⟨j, rfl⟩
      have hb : bits BinOp.and IntKind.u64 ((m : Int) * 10) 63 = ((m * 10 % 64 : Nat) : Int) := by rw [← and63 (m * 10) (by omega)]; congr
      have hd := Aside0.mk (fun w' => (show Calls Tryd.prog 32 #[.int .u64 ((m : Int) * 10 / 64)] w' _ from digits_any (m * 10 / 64) w' (by omega)))
      have hz1 : ((m : Int) == 0) = false := by simp; omega
      have hz2 : ((m : Int) != 0) = true := by simp; omega
      have e1 : dstr (m * 10 / 64) = ⟨(digB (m * 10 / 64)).toArray⟩ := rfl
      have l1 := dotted_size pre
      have l2 := HL.out
      have l3 : (dstr (m * 10 / 64)).size = 1 := by rw [dstr_size, digB_one (by omega)]; rfl
      have c8 := eq_false (show ¬ 9223372036854775807 < (dotted pre).size + (dstr (m * 10 / 64)).size by omega)
      have HZ := Aside0.mk (msr_down m hm hz)
      have HX := Aside0.mk (show (pre ++ digB (m * 10 / 64)) ++ restF j (m * 10 % 64) = restF 6 n0 by
        rw [← HP.out, restF, if_neg hz, List.append_assoc])
      have HM2 := Aside0.mk (show m * 10 % 64 * 10 ^ j % 64 = 0 by
        have h := HM.out
        rw [Nat.pow_succ, Nat.mul_comm (10 ^ j) 10, ← Nat.mul_assoc] at h
        rw [Nat.mul_mod, Nat.mod_mod, ← Nat.mul_mod]
        exact h)
      have HL2 := Aside0.mk (show (pre ++ digB (m * 10 / 64)).length + j ≤ 6 by
        rw [List.length_append, digB_one (by omega)]; simp; omega)
      have HDA := Aside0.mk (dotted_app pre (digB (m * 10 / 64)))
      clear e1 l1 l2 l3
      go_wp2_with (go_at_call 32; refine (hd.out _).mono ?_; rintro e w' ⟨rfl, rfl⟩)
      go_round
      case rel => exact ⟨j, m * 10 % 64, pre ++ digB (m * 10 / 64), by omega, by omega, rfl, by rw [← HDA.out]; rfl, HX, HM2, HL2⟩
      case measure =>
        have h := HZ.out
        have e : ((m : Int) * 10 % 64).toNat = m * 10 % 64 := by omega
        simpa [intOf, e] using h
end Go.Proofs.YtlpkjjeihbdocaaDoor.G
