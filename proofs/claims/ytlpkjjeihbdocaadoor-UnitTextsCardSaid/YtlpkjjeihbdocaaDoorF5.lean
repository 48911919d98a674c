/- Chapter 1: Div, Up. -/
import Derived.Test.YtlpkjjeihbdocaaDoorF4
namespace Go.Proofs.YtlpkjjeihbdocaaDoor.G
open Go.RowKit Go.Proofs.YtlpkjjeihbdocaaDoorW.PrintWords Go.Proofs.YtlpkjjeihbdocaaDoorW.PrintLast Go.Proofs.YtlpkjjeihbdocaaDoorW.PrintMore

theorem bmod_in {r : Int} (hr : -9223372036854775808 ≤ r ∧ r ≤ 9223372036854775807) : r.bmod 18446744073709551616 = r := by
  rw [Int.bmod_def]
  split <;> omega
theorem msb_in {r : Int} (hr : -9223372036854775808 ≤ r ∧ r ≤ 9223372036854775807) : (BitVec.ofInt 64 r).msb = decide (r < 0) := by
  rw [BitVec.msb_eq_toInt, BitVec.toInt_ofInt]
  show decide (r.bmod 18446744073709551616 < 0) = _
  rw [bmod_in hr]
theorem xor_neg (r n : Int) (hr : -9223372036854775808 ≤ r ∧ r ≤ 9223372036854775807) (hn : -9223372036854775808 ≤ n ∧ n ≤ 9223372036854775807) : (bits BinOp.xor IntKind.i64 r n < 0) ↔ ((decide (r < 0)) != (decide (n < 0))) = true := by
  show IntKind.i64.wrap ((BitVec.ofInt 64 r ^^^ BitVec.ofInt 64 n).toNat : Int) < 0 ↔ _
  have hx := (BitVec.ofInt 64 r ^^^ BitVec.ofInt 64 n).isLt
  have hm : (BitVec.ofInt 64 r ^^^ BitVec.ofInt 64 n).msb = (decide (r < 0) != decide (n < 0)) := by rw [BitVec.msb_xor, msb_in hr, msb_in hn]
  rw [← hm, BitVec.msb_eq_decide, decide_eq_true_eq, IntWalk.i64_left]
  generalize (BitVec.ofInt 64 r ^^^ BitVec.ofInt 64 n).toNat = m at *
  unfold wrap64
  omega

def r64 (n : Int) : Prop := -9223372036854775808 ≤ n ∧ n ≤ 9223372036854775807
instance (n : Int) : Decidable (r64 n) := by unfold r64; exact inferInstance
/-- One by n, downwards. -/
def divZ (a n : Int) : Int := if (a.tmod n != 0 && (decide (a.tmod n < 0) != decide (n < 0))) = true then a.tdiv n - 1 else a.tdiv n
theorem tdiv_in {a : Int} (n : Int) (h : lenB a = true) : -1073741824 ≤ a.tdiv n ∧ a.tdiv n ≤ 1073741824 := by
  have h1 : (a.tdiv n).natAbs ≤ a.natAbs := by rw [Int.natAbs_tdiv]; exact Nat.div_le_self _ _
  simp [lenB] at h
  omega
theorem tmod_in {a : Int} (n : Int) (h : lenB a = true) : -1073741824 ≤ a.tmod n ∧ a.tmod n ≤ 1073741824 := by
  have h1 : (a.tmod n).natAbs ≤ a.natAbs := by rw [Int.natAbs_tmod]; exact Nat.mod_le _ _
  simp [lenB] at h
  omega

set_option maxRecDepth 100000 in
set_option maxHeartbeats 1000000 in
theorem divided_ok (a n : Int) (w : World) (ha : lenB a = true) (hn : n ≠ 0) (hr : r64 n) :
    Calls Tryd.prog 41 #[.int .i64 a, .int .i64 n] w fun e w' => e = .returned (.tuple #[.int .i64 (divZ a n), .bool (a.tmod n != 0), .nilIface]) ∧ Below w.heap.size w w' := by
  have hq := Aside0.mk (tdiv_in n ha)
  have hm := Aside0.mk (tmod_in n ha)
  have HX := Aside0.mk (xor_neg (a.tmod n) n (by have := hm.out; omega) hr)
  have e1 : wrap64 (a.tdiv n) = a.tdiv n := i64_in (by have := hq.out; omega) (by have := hq.out; omega)
  have E1 := Aside0.mk e1
  have E2 := Aside0.mk (i64_in (x := a.tdiv n - 1) (by have := hq.out; omega) (by have := hq.out; omega))
  have HA := Aside0.mk ha
  have hn' : (n == 0) = false := by simp [hn]
  clear ha e1 hr
  generalize hd : divZ a n = q
  have HD := Aside0.mk hd
  clear hd
  go_enter Tryd.func41, Tryd.ntmps41
  go_wp2_with (go_at_call 17; with_reducible refine (right_any a _).mono ?_; rintro e w' ⟨rfl, rfl⟩; rw [HA.out])
  go_quiet (fail)
  go_wp2
  all_goals go_ret3
  · rename_i h
    refine ⟨?_, pw_below_drewN (Below.refl _ _) _⟩
    have e : q = a.tdiv n := by rw [← HD.out, divZ, h, if_neg (by simp)]
    rw [e, h]
    first | rfl | (rw [E1.out]; rfl)
  · rename_i h
    refine ⟨?_, pw_below_drewN (Below.refl _ _) _⟩
    have h2 := HX.out.1 h.2
    have e : q = wrap64 (a.tdiv n - 1) := by rw [E2.out, ← HD.out, divZ, if_pos (by rw [h.1, h2]; rfl)]
    rw [e, h.1]
    first | rfl | (rw [E1.out]; rfl)
  · rename_i h
    refine ⟨?_, pw_below_drewN (Below.refl _ _) _⟩
    have e : q = a.tdiv n := by
      rw [← HD.out, divZ, if_neg ?_]
      intro hc
      rw [Bool.and_eq_true] at hc
      rcases h with h | h
      · rw [h] at hc; cases hc.1
      · have := HX.out.2 hc.2
        omega
    rw [e]
    first | rfl | (rw [E1.out]; rfl)
end Go.Proofs.YtlpkjjeihbdocaaDoor.G
