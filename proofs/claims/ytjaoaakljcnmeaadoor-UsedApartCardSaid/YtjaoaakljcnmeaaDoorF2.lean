/- Chapter 6: quotients of lengths; what a style and a width must be. -/
import Derived.Test.YtjaoaakljcnmeaaDoorF1
import Derived.Test.YtjaoaakljcnmeaaDoorP2
import Derived.Test.YtjaoaakljcnmeaaDoorP3
import Derived.Test.YtjaoaakljcnmeaaDoorP4
namespace Go.Proofs.YtjaoaakljcnmeaaDoor.G
open Go.RowKit Go.Proofs.YtjaoaakljcnmeaaDoorW.PrintWords Go.Proofs.YtjaoaakljcnmeaaDoorW.PrintLast Go.Proofs.YtjaoaakljcnmeaaDoorW.PrintMore
open Go.Extern.Stop Go.Stop Go.Extern

set_option maxRecDepth 100000 in
theorem is_nil (v : Value) (w : World) : Calls Tryd.prog 44 #[.nilIface, .iface 99 v] w fun e w' => e = .returned (.bool false) ∧ w = w' := by
  have hn := run_eql_iface_nil_left (P := Tryd.prog) (w := w) 99 v Tryd.underlying43
  go_enter Tryd.func44, Tryd.ntmps44
  go_wp2
  go_ret
  exact ⟨rfl, rfl⟩

/-- Is a number a length? -/
def lenB (a : Int) : Bool := decide (-1073741824 ≤ a) && decide (a ≤ 1073741824)
theorem right_any (a : Int) (w : World) : Calls Tryd.prog 43 #[.int .i64 a] w fun e w' => e = .returned (.bool (lenB a)) ∧ w = w' := by
  unfold lenB
  by_cases h : -1073741824 ≤ a
  · go_enter Tryd.func43, Tryd.ntmps43
    go_wp2
    go_ret
    exact ⟨by simp [h], rfl⟩
  · go_enter Tryd.func43, Tryd.ntmps43
    go_wp2
    go_ret
    exact ⟨by simp; intro; omega, rfl⟩
theorem i64_in {x : Int} (h1 : -9223372036854775808 ≤ x) (h2 : x ≤ 9223372036854775807) : wrap64 x = x := by unfold wrap64; omega

theorem bmod_in {r : Int} (hr : -9223372036854775808 ≤ r ∧ r ≤ 9223372036854775807) : r.bmod 18446744073709551616 = r := by
  rw [Int.bmod_def]
  split <;> omega
theorem msb_in {r : Int} (hr : -9223372036854775808 ≤ r ∧ r ≤ 9223372036854775807) : (BitVec.ofInt 64 r).msb = decide (r < 0) := by
  rw [BitVec.msb_eq_toInt, BitVec.toInt_ofInt]
  show decide (r.bmod 18446744073709551616 < 0) = _
  rw [bmod_in hr]
theorem xor_neg (r n : Int) (hr : -9223372036854775808 ≤ r ∧ r ≤ 9223372036854775807) (hn : -9223372036854775808 ≤ n ∧ n ≤ 9223372036854775807) : (bits BinOp.xor IntKind.i64 r n < 0) ↔ ((decide (r < 0)) != (decide (n < 0))) = true := by
  show IntKind.i64.wrap ((BitVec.ofInt 64 r ^^^ BitVec.ofInt 64 n).toNat : Int) < 0 ↔ _
  have hx := (BitVec.ofInt 64 r ^^^ BitVec.ofInt 64 n).isLt
  have hm : (BitVec.ofInt 64 r ^^^ BitVec.ofInt 64 n).msb = (decide (r < 0) != decide (n < 0)) := by rw [BitVec.msb_xor, msb_in hr, msb_in hn]
  rw [← hm, BitVec.msb_eq_decide, decide_eq_true_eq, IntWalk.i64_left]
  generalize (BitVec.ofInt 64 r ^^^ BitVec.ofInt 64 n).toNat = m at *
  unfold wrap64
  omega

def r64 (n : Int) : Prop := -9223372036854775808 ≤ n ∧ n ≤ 9223372036854775807
/-- One by n, downwards. -/
def divZ (a n : Int) : Int := if (a.tmod n != 0 && (decide (a.tmod n < 0) != decide (n < 0))) = true then a.tdiv n - 1 else a.tdiv n
theorem tdiv_in {a : Int} (n : Int) (h : lenB a = true) : -1073741824 ≤ a.tdiv n ∧ a.tdiv n ≤ 1073741824 := by
  have h1 : (a.tdiv n).natAbs ≤ a.natAbs := by rw [Int.natAbs_tdiv]; exact Nat.div_le_self _ _
  simp [lenB] at h
  omega
theorem tmod_in {a : Int} (n : Int) (h : lenB a = true) : -1073741824 ≤ a.tmod n ∧ a.tmod n ≤ 1073741824 := by
  have h1 : (a.tmod n).natAbs ≤ a.natAbs := by rw [Int.natAbs_tmod]; exact Nat.mod_le _ _
  simp [lenB] at h
  omega

set_option maxRecDepth 100000 in
set_option maxHeartbeats 1000000 in
theorem divided_ok (a n : Int) (w : World) (ha : lenB a = true) (hn : n ≠ 0) (hr : r64 n) :
    Calls Tryd.prog 37 #[.int .i64 a, .int .i64 n] w fun e w' => e = .returned (.tuple #[.int .i64 (divZ a n), .bool (a.tmod n != 0), .nilIface]) ∧ Below w.heap.size w w' := by
  have hq := Aside0.mk (tdiv_in n ha)
  have hm := Aside0.mk (tmod_in n ha)
  have HX := Aside0.mk (xor_neg (a.tmod n) n (by have := hm.out; omega) hr)
  have e1 : wrap64 (a.tdiv n) = a.tdiv n := i64_in (by have := hq.out; omega) (by have := hq.out; omega)
  have E1 := Aside0.mk e1
  have E2 := Aside0.mk (i64_in (x := a.tdiv n - 1) (by have := hq.out; omega) (by have := hq.out; omega))
  have HA := Aside0.mk ha
  have hn' : (n == 0) = false := by simp [hn]
  clear ha e1 hr
  generalize hd : divZ a n = q
  have HD := Aside0.mk hd
  clear hd
  go_enter Tryd.func37, Tryd.ntmps37
  go_wp2_with (go_at_call 43; with_reducible refine (right_any a _).mono ?_; rintro e w' ⟨rfl, rfl⟩; rw [HA.out])
  go_quiet (fail)
  go_wp2
  all_goals go_ret3
  · rename_i h
    refine ⟨?_, pw_below_drewN (Below.refl _ _) _⟩
    have e : q = a.tdiv n := by rw [← HD.out, divZ, h, if_neg (by simp)]
    rw [e, h]
    first | rfl | (rw [E1.out]; rfl)
  · rename_i h
    refine ⟨?_, pw_below_drewN (Below.refl _ _) _⟩
    have h2 := HX.out.1 h.2
    have e : q = wrap64 (a.tdiv n - 1) := by rw [E2.out, ← HD.out, divZ, if_pos (by rw [h.1, h2]; rfl)]
    rw [e, h.1]
    first | rfl | (rw [E1.out]; rfl)
  · rename_i h
    refine ⟨?_, pw_below_drewN (Below.refl _ _) _⟩
    have e : q = a.tdiv n := by
      rw [← HD.out, divZ, if_neg ?_]
      intro hc
      rw [Bool.and_eq_true] at hc
      rcases h with h | h
      · rw [h] at hc; cases hc.1
      · have := HX.out.2 hc.2
        omega
    rw [e]
    first | rfl | (rw [E1.out]; rfl)
/-- What the world must bear: the handle of the type of errors; three sentinels. -/
def GOK (w : World) : Prop := w.cell? ⟨0, 0, none⟩ = some (.iface 82 (.agg #[.pointer (some ⟨4, 43, none⟩)])) ∧ ∃ a b c : Value, w.cell? ⟨1, 0, none⟩ = some (.iface 99 a) ∧ w.cell? ⟨2, 0, none⟩ = some (.iface 99 b) ∧ w.cell? ⟨3, 0, none⟩ = some (.iface 99 c)
theorem GOK.below {w w1 : World} (h : GOK w) (hb : Below w.heap.size w w1) : GOK w1 := by
  obtain ⟨h0, a, b, c, h1, h2, h3⟩ := h
  exact ⟨pw_cell_below hb h0, a, b, c, pw_cell_below hb h1, pw_cell_below hb h2, pw_cell_below hb h3⟩
set_option maxRecDepth 100000 in
theorem utold_nil (w : World) (hG : GOK w) : Calls Tryd.prog 38 #[.nilIface] w fun e w' => e = .returned (.int .i64 0) ∧ w = w' := by
  obtain ⟨_, a, b, c, h1, h2, h3⟩ := hG
  go_enter Tryd.func38, Tryd.ntmps38
  go_wp2_with (go_at_call 44; refine (is_nil _ _).mono ?_; rintro e w' ⟨rfl, rfl⟩)
  go_ret
  exact ⟨rfl, rfl⟩
set_option maxRecDepth 100000 in
theorem div_ok (a n : Int) (w : World) (ha : lenB a = true) (hn : n ≠ 0) (hr : r64 n) (hG : GOK w) : Calls Tryd.prog 32 #[.int .i64 a, .int .i64 n] w fun e w' => e = .returned (.tuple #[.int .i64 (divZ a n), .int .i64 0]) ∧ Below w.heap.size w w' := by
  have HC := Aside0.mk (divided_ok a n w ha hn hr)
  have HG := Aside0.mk hG
  clear ha hn hr hG
  go_enter Tryd.func32, Tryd.ntmps32
  go_wp2_with (first | (go_at_call 37; with_reducible refine HC.out.mono ?_; rintro e w1 ⟨rfl, hb⟩; have HB1 := Aside0.mk hb; clear hb) | (go_at_call 38; refine (utold_nil _ (HG.out.below HB1.out)).mono ?_; rintro e w2 ⟨rfl, rfl⟩))
  go_ret2
  exact ⟨rfl, HB1.out⟩
theorem divZ_pos {a n : Int} (ha : 0 ≤ a) (hn : 0 < n) : divZ a n = a / n := by
  unfold divZ
  have h1 := Int.tmod_nonneg n ha
  rw [if_neg, Int.tdiv_eq_ediv_of_nonneg ha]
  have h2 : decide (a.tmod n < 0) = false := decide_eq_false (by omega)
  have h3 : decide (n < 0) = false := decide_eq_false (by omega)
  rw [h2, h3]; simp
end Go.Proofs.YtjaoaakljcnmeaaDoor.G
