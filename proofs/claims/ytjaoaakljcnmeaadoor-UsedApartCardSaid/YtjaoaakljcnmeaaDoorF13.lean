/- Chapter 6: what the laws call, joined. Written by mkF13.py. -/
import Derived.Test.YtjaoaakljcnmeaaDoorF11
import Derived.Test.YtjaoaakljcnmeaaDoorF12
namespace Go.Proofs.YtjaoaakljcnmeaaDoor.G
open Go.RowKit Go.Maps Go.Proofs.YtjaoaakljcnmeaaDoorW.PrintWords Go.Proofs.YtjaoaakljcnmeaaDoorW.PrintLast Go.Proofs.YtjaoaakljcnmeaaDoorW.PrintMore

/-- Where the columns are right, they are told; else why not. -/
theorem usedZ_way (s0 : Int) (s1 : Int) (s2 : Int) (s3 : Int) (s4 : Bool) (s5 : Int) (s6 : Int) (s7 : Int) (s8 : Bool) (s9 : Int) (s10 : Int) (s11 : Bool) (s12 : Int) (s13 : Bool) (s14 : Int) (s15 : Int) (av : Int) : ((usedZ s0 s1 s2 s3 s4 s5 s6 s7 s8 s9 s10 s11 s12 s13 s14 s15 av).2.2 = 0 ∧ 1 ≤ (usedZ s0 s1 s2 s3 s4 s5 s6 s7 s8 s9 s10 s11 s12 s13 s14 s15 av).1 ∧ (usedZ s0 s1 s2 s3 s4 s5 s6 s7 s8 s9 s10 s11 s12 s13 s14 s15 av).1 ≤ 50) ∨ ((usedZ s0 s1 s2 s3 s4 s5 s6 s7 s8 s9 s10 s11 s12 s13 s14 s15 av).2.2 ≠ 0) := by
  unfold usedZ
  by_cases h : (rightB s0 s1 s2 s3 s4 s5 s6 s7 s8 s9 s10 s11 s12 s13 s14 s15 && multiB s0 s1) = true
  · rw [if_pos h]
    rw [Bool.and_eq_true] at h
    by_cases h2 : sizB av = true
    · rw [if_pos h2]
      exact .inl ⟨rfl, many_in (right_in h.1).1 h.2⟩
    · rw [if_neg h2]
      exact .inr (by show (60 : Int) ≠ 0; omega)
  · rw [if_neg h]
    exact .inr (by show (40 : Int) ≠ 0; omega)
theorem errV_zero {e : Int} (h : e = 0) : errV e = .nilIface := by rw [errV, if_pos h]
theorem errV_some {e : Int} (h : e ≠ 0) : errV e = .iface 54 (.agg #[.int .i64 e]) := by rw [errV, if_neg h]
theorem nat_of {n : Int} (h : 0 ≤ n) : ((n.toNat : Nat) : Int) = n := Int.toNat_of_nonneg h

def used_Used.f (a0 : Int) (a1_0 : Int) (a1_1 : Int) (a1_2 : Int) (a1_3 : Int) (a1_4 : Bool) (a1_5 : Int) (a1_6 : Int) (a1_7 : Int) (a1_8 : Bool) (a1_9 : Int) (a1_10 : Int) (a1_11 : Bool) (a1_12 : Int) (a1_13 : Bool) (a1_14 : Int) (a1_15 : Int) : Option (Int × Int × Int) := some (usedZ a1_0 a1_1 a1_2 a1_3 a1_4 a1_5 a1_6 a1_7 a1_8 a1_9 a1_10 a1_11 a1_12 a1_13 a1_14 a1_15 a0)
theorem used_Used.calls (a0 : Int) (a1_0 : Int) (a1_1 : Int) (a1_2 : Int) (a1_3 : Int) (a1_4 : Bool) (a1_5 : Int) (a1_6 : Int) (a1_7 : Int) (a1_8 : Bool) (a1_9 : Int) (a1_10 : Int) (a1_11 : Bool) (a1_12 : Int) (a1_13 : Bool) (a1_14 : Int) (a1_15 : Int) (r1 : Int) (r2 : Int) (r3 : Int) (w : World) (h : used_Used.f a0 a1_0 a1_1 a1_2 a1_3 a1_4 a1_5 a1_6 a1_7 a1_8 a1_9 a1_10 a1_11 a1_12 a1_13 a1_14 a1_15 = some (r1, r2, r3)) (hG : GOK w) :
    Calls Tryd.prog 11 #[.int .i64 a0, .agg #[.int .i64 a1_0, .int .i64 a1_1, .int .i64 a1_2, .int .i64 a1_3, .bool a1_4, .int .i64 a1_5, .int .i64 a1_6, .int .i64 a1_7, .bool a1_8, .int .i64 a1_9, .int .i64 a1_10, .bool a1_11, .int .i64 a1_12, .bool a1_13, .int .i64 a1_14, .int .i64 a1_15]] w fun e w' => e = .returned (.tuple #[.int .i64 r1, .int .i64 r2, .int .i64 r3]) ∧ Below w.heap.size w w' := by
  have h1 := Used_gen (stV a1_0 a1_1 a1_2 a1_3 a1_4 a1_5 a1_6 a1_7 a1_8 a1_9 a1_10 a1_11 a1_12 a1_13 a1_14 a1_15) (msV a1_0 a1_1 a1_2 a1_3 a1_4 a1_5 a1_6 a1_7 a1_8 a1_9 a1_10 a1_11 a1_12 a1_13 a1_14 a1_15 a0) a0 _ _ _ w rfl (builds_st a1_0 a1_1 a1_2 a1_3 a1_4 a1_5 a1_6 a1_7 a1_8 a1_9 a1_10 a1_11 a1_12 a1_13 a1_14 a1_15 a0) (fun w' hG' => used_all a1_0 a1_1 a1_2 a1_3 a1_4 a1_5 a1_6 a1_7 a1_8 a1_9 a1_10 a1_11 a1_12 a1_13 a1_14 a1_15 a0 w' hG') hG
  rw [show usedZ a1_0 a1_1 a1_2 a1_3 a1_4 a1_5 a1_6 a1_7 a1_8 a1_9 a1_10 a1_11 a1_12 a1_13 a1_14 a1_15 a0 = (r1, r2, r3) from Option.some.inj h] at h1
  exact h1
def used_Left.f (a0 : Int) (a1_0 : Int) (a1_1 : Int) (a1_2 : Int) (a1_3 : Int) (a1_4 : Bool) (a1_5 : Int) (a1_6 : Int) (a1_7 : Int) (a1_8 : Bool) (a1_9 : Int) (a1_10 : Int) (a1_11 : Bool) (a1_12 : Int) (a1_13 : Bool) (a1_14 : Int) (a1_15 : Int) (a2 : Int) : Option (Int × Int) := some (if (usedZ a1_0 a1_1 a1_2 a1_3 a1_4 a1_5 a1_6 a1_7 a1_8 a1_9 a1_10 a1_11 a1_12 a1_13 a1_14 a1_15 a0).2.2 = 0 then leftZ (usedZ a1_0 a1_1 a1_2 a1_3 a1_4 a1_5 a1_6 a1_7 a1_8 a1_9 a1_10 a1_11 a1_12 a1_13 a1_14 a1_15 a0).2.1 a1_2 a2 else (0, (usedZ a1_0 a1_1 a1_2 a1_3 a1_4 a1_5 a1_6 a1_7 a1_8 a1_9 a1_10 a1_11 a1_12 a1_13 a1_14 a1_15 a0).2.2))
theorem used_Left.calls (a0 : Int) (a1_0 : Int) (a1_1 : Int) (a1_2 : Int) (a1_3 : Int) (a1_4 : Bool) (a1_5 : Int) (a1_6 : Int) (a1_7 : Int) (a1_8 : Bool) (a1_9 : Int) (a1_10 : Int) (a1_11 : Bool) (a1_12 : Int) (a1_13 : Bool) (a1_14 : Int) (a1_15 : Int) (a2 : Int) (r1 : Int) (r2 : Int) (w : World) (h : used_Left.f a0 a1_0 a1_1 a1_2 a1_3 a1_4 a1_5 a1_6 a1_7 a1_8 a1_9 a1_10 a1_11 a1_12 a1_13 a1_14 a1_15 a2 = some (r1, r2)) (hG : GOK w) :
    Calls Tryd.prog 12 #[.int .i64 a0, .agg #[.int .i64 a1_0, .int .i64 a1_1, .int .i64 a1_2, .int .i64 a1_3, .bool a1_4, .int .i64 a1_5, .int .i64 a1_6, .int .i64 a1_7, .bool a1_8, .int .i64 a1_9, .int .i64 a1_10, .bool a1_11, .int .i64 a1_12, .bool a1_13, .int .i64 a1_14, .int .i64 a1_15], .int .i64 a2] w fun e w' => e = .returned (.tuple #[.int .i64 r1, .int .i64 r2]) ∧ Below w.heap.size w w' := by
  have hu := fun w' hG' => used_all a1_0 a1_1 a1_2 a1_3 a1_4 a1_5 a1_6 a1_7 a1_8 a1_9 a1_10 a1_11 a1_12 a1_13 a1_14 a1_15 a0 w' hG'
  have h := Option.some.inj h
  by_cases he : (usedZ a1_0 a1_1 a1_2 a1_3 a1_4 a1_5 a1_6 a1_7 a1_8 a1_9 a1_10 a1_11 a1_12 a1_13 a1_14 a1_15 a0).2.2 = 0
  · rw [if_pos he] at h
    rw [errV_zero he] at hu
    have h1 := Left_ok (stV a1_0 a1_1 a1_2 a1_3 a1_4 a1_5 a1_6 a1_7 a1_8 a1_9 a1_10 a1_11 a1_12 a1_13 a1_14 a1_15) (msV a1_0 a1_1 a1_2 a1_3 a1_4 a1_5 a1_6 a1_7 a1_8 a1_9 a1_10 a1_11 a1_12 a1_13 a1_14 a1_15 a0) a0 _ _ a1_2 a2 w rfl rfl (builds_st a1_0 a1_1 a1_2 a1_3 a1_4 a1_5 a1_6 a1_7 a1_8 a1_9 a1_10 a1_11 a1_12 a1_13 a1_14 a1_15 a0) hu hG
    rw [h] at h1
    exact h1
  · rw [if_neg he] at h
    rw [errV_some he] at hu
    have h1 := Left_err (stV a1_0 a1_1 a1_2 a1_3 a1_4 a1_5 a1_6 a1_7 a1_8 a1_9 a1_10 a1_11 a1_12 a1_13 a1_14 a1_15) (msV a1_0 a1_1 a1_2 a1_3 a1_4 a1_5 a1_6 a1_7 a1_8 a1_9 a1_10 a1_11 a1_12 a1_13 a1_14 a1_15 a0) a0 _ _ _ a2 w rfl (builds_st a1_0 a1_1 a1_2 a1_3 a1_4 a1_5 a1_6 a1_7 a1_8 a1_9 a1_10 a1_11 a1_12 a1_13 a1_14 a1_15 a0) hu hG
    obtain ⟨rfl, rfl⟩ := Prod.mk.inj h
    exact h1
def used_Slack.f (a0 : Int) (a1_0 : Int) (a1_1 : Int) (a1_2 : Int) (a1_3 : Int) (a1_4 : Bool) (a1_5 : Int) (a1_6 : Int) (a1_7 : Int) (a1_8 : Bool) (a1_9 : Int) (a1_10 : Int) (a1_11 : Bool) (a1_12 : Int) (a1_13 : Bool) (a1_14 : Int) (a1_15 : Int) : Option (Int × Int) := some (if (usedZ a1_0 a1_1 a1_2 a1_3 a1_4 a1_5 a1_6 a1_7 a1_8 a1_9 a1_10 a1_11 a1_12 a1_13 a1_14 a1_15 a0).2.2 = 0 then (slackZ (usedZ a1_0 a1_1 a1_2 a1_3 a1_4 a1_5 a1_6 a1_7 a1_8 a1_9 a1_10 a1_11 a1_12 a1_13 a1_14 a1_15 a0).2.1 a1_2 a0 (leftsL (usedZ a1_0 a1_1 a1_2 a1_3 a1_4 a1_5 a1_6 a1_7 a1_8 a1_9 a1_10 a1_11 a1_12 a1_13 a1_14 a1_15 a0).2.1 a1_2 (usedZ a1_0 a1_1 a1_2 a1_3 a1_4 a1_5 a1_6 a1_7 a1_8 a1_9 a1_10 a1_11 a1_12 a1_13 a1_14 a1_15 a0).1.toNat), 0) else (0, (usedZ a1_0 a1_1 a1_2 a1_3 a1_4 a1_5 a1_6 a1_7 a1_8 a1_9 a1_10 a1_11 a1_12 a1_13 a1_14 a1_15 a0).2.2))
theorem used_Slack.calls (a0 : Int) (a1_0 : Int) (a1_1 : Int) (a1_2 : Int) (a1_3 : Int) (a1_4 : Bool) (a1_5 : Int) (a1_6 : Int) (a1_7 : Int) (a1_8 : Bool) (a1_9 : Int) (a1_10 : Int) (a1_11 : Bool) (a1_12 : Int) (a1_13 : Bool) (a1_14 : Int) (a1_15 : Int) (r1 : Int) (r2 : Int) (w : World) (h : used_Slack.f a0 a1_0 a1_1 a1_2 a1_3 a1_4 a1_5 a1_6 a1_7 a1_8 a1_9 a1_10 a1_11 a1_12 a1_13 a1_14 a1_15 = some (r1, r2)) (hG : GOK w) :
    Calls Tryd.prog 18 #[.int .i64 a0, .agg #[.int .i64 a1_0, .int .i64 a1_1, .int .i64 a1_2, .int .i64 a1_3, .bool a1_4, .int .i64 a1_5, .int .i64 a1_6, .int .i64 a1_7, .bool a1_8, .int .i64 a1_9, .int .i64 a1_10, .bool a1_11, .int .i64 a1_12, .bool a1_13, .int .i64 a1_14, .int .i64 a1_15]] w fun e w' => e = .returned (.tuple #[.int .i64 r1, .int .i64 r2]) ∧ Below w.heap.size w w' := by
  have hu := fun w' hG' => used_all a1_0 a1_1 a1_2 a1_3 a1_4 a1_5 a1_6 a1_7 a1_8 a1_9 a1_10 a1_11 a1_12 a1_13 a1_14 a1_15 a0 w' hG'
  have h := Option.some.inj h
  by_cases he : (usedZ a1_0 a1_1 a1_2 a1_3 a1_4 a1_5 a1_6 a1_7 a1_8 a1_9 a1_10 a1_11 a1_12 a1_13 a1_14 a1_15 a0).2.2 = 0
  · rw [if_pos he] at h
    rw [errV_zero he] at hu
    obtain ⟨-, h1, h2⟩ | h1 := usedZ_way a1_0 a1_1 a1_2 a1_3 a1_4 a1_5 a1_6 a1_7 a1_8 a1_9 a1_10 a1_11 a1_12 a1_13 a1_14 a1_15 a0
    · rw [← nat_of (n := (usedZ a1_0 a1_1 a1_2 a1_3 a1_4 a1_5 a1_6 a1_7 a1_8 a1_9 a1_10 a1_11 a1_12 a1_13 a1_14 a1_15 a0).1) (by omega)] at hu
      have h1 := Slack_ok (stV a1_0 a1_1 a1_2 a1_3 a1_4 a1_5 a1_6 a1_7 a1_8 a1_9 a1_10 a1_11 a1_12 a1_13 a1_14 a1_15) (msV a1_0 a1_1 a1_2 a1_3 a1_4 a1_5 a1_6 a1_7 a1_8 a1_9 a1_10 a1_11 a1_12 a1_13 a1_14 a1_15 a0) a0 _ a1_2 (usedZ a1_0 a1_1 a1_2 a1_3 a1_4 a1_5 a1_6 a1_7 a1_8 a1_9 a1_10 a1_11 a1_12 a1_13 a1_14 a1_15 a0).1.toNat (by omega) w rfl rfl (builds_st a1_0 a1_1 a1_2 a1_3 a1_4 a1_5 a1_6 a1_7 a1_8 a1_9 a1_10 a1_11 a1_12 a1_13 a1_14 a1_15 a0) hu hG
      obtain ⟨rfl, rfl⟩ := Prod.mk.inj h
      exact callsIn_wide.1 h1
    · exact absurd he h1
  · rw [if_neg he] at h
    rw [errV_some he] at hu
    have h1 := Slack_err (stV a1_0 a1_1 a1_2 a1_3 a1_4 a1_5 a1_6 a1_7 a1_8 a1_9 a1_10 a1_11 a1_12 a1_13 a1_14 a1_15) (msV a1_0 a1_1 a1_2 a1_3 a1_4 a1_5 a1_6 a1_7 a1_8 a1_9 a1_10 a1_11 a1_12 a1_13 a1_14 a1_15 a0) a0 _ _ _ w rfl (builds_st a1_0 a1_1 a1_2 a1_3 a1_4 a1_5 a1_6 a1_7 a1_8 a1_9 a1_10 a1_11 a1_12 a1_13 a1_14 a1_15 a0) hu hG
    obtain ⟨rfl, rfl⟩ := Prod.mk.inj h
    exact h1
def used_At.f (a0 : Int) (a1_0 : Int) (a1_1 : Int) (a1_2 : Int) (a1_3 : Int) (a1_4 : Bool) (a1_5 : Int) (a1_6 : Int) (a1_7 : Int) (a1_8 : Bool) (a1_9 : Int) (a1_10 : Int) (a1_11 : Bool) (a1_12 : Int) (a1_13 : Bool) (a1_14 : Int) (a1_15 : Int) (a2 : Int) : Option (Int × Bool × Int) := some (if (usedZ a1_0 a1_1 a1_2 a1_3 a1_4 a1_5 a1_6 a1_7 a1_8 a1_9 a1_10 a1_11 a1_12 a1_13 a1_14 a1_15 a0).2.2 = 0 then ((atZ (usedZ a1_0 a1_1 a1_2 a1_3 a1_4 a1_5 a1_6 a1_7 a1_8 a1_9 a1_10 a1_11 a1_12 a1_13 a1_14 a1_15 a0).2.1 a1_2 a2 (usedZ a1_0 a1_1 a1_2 a1_3 a1_4 a1_5 a1_6 a1_7 a1_8 a1_9 a1_10 a1_11 a1_12 a1_13 a1_14 a1_15 a0).1.toNat).1, (atZ (usedZ a1_0 a1_1 a1_2 a1_3 a1_4 a1_5 a1_6 a1_7 a1_8 a1_9 a1_10 a1_11 a1_12 a1_13 a1_14 a1_15 a0).2.1 a1_2 a2 (usedZ a1_0 a1_1 a1_2 a1_3 a1_4 a1_5 a1_6 a1_7 a1_8 a1_9 a1_10 a1_11 a1_12 a1_13 a1_14 a1_15 a0).1.toNat).2, 0) else (0, false, (usedZ a1_0 a1_1 a1_2 a1_3 a1_4 a1_5 a1_6 a1_7 a1_8 a1_9 a1_10 a1_11 a1_12 a1_13 a1_14 a1_15 a0).2.2))
theorem used_At.calls (a0 : Int) (a1_0 : Int) (a1_1 : Int) (a1_2 : Int) (a1_3 : Int) (a1_4 : Bool) (a1_5 : Int) (a1_6 : Int) (a1_7 : Int) (a1_8 : Bool) (a1_9 : Int) (a1_10 : Int) (a1_11 : Bool) (a1_12 : Int) (a1_13 : Bool) (a1_14 : Int) (a1_15 : Int) (a2 : Int) (r1 : Int) (r2 : Bool) (r3 : Int) (w : World) (h : used_At.f a0 a1_0 a1_1 a1_2 a1_3 a1_4 a1_5 a1_6 a1_7 a1_8 a1_9 a1_10 a1_11 a1_12 a1_13 a1_14 a1_15 a2 = some (r1, r2, r3)) (hG : GOK w) :
    Calls Tryd.prog 13 #[.int .i64 a0, .agg #[.int .i64 a1_0, .int .i64 a1_1, .int .i64 a1_2, .int .i64 a1_3, .bool a1_4, .int .i64 a1_5, .int .i64 a1_6, .int .i64 a1_7, .bool a1_8, .int .i64 a1_9, .int .i64 a1_10, .bool a1_11, .int .i64 a1_12, .bool a1_13, .int .i64 a1_14, .int .i64 a1_15], .int .i64 a2] w fun e w' => e = .returned (.tuple #[.int .i64 r1, .bool r2, .int .i64 r3]) ∧ Below w.heap.size w w' := by
  have hu := fun w' hG' => used_all a1_0 a1_1 a1_2 a1_3 a1_4 a1_5 a1_6 a1_7 a1_8 a1_9 a1_10 a1_11 a1_12 a1_13 a1_14 a1_15 a0 w' hG'
  have h := Option.some.inj h
  by_cases he : (usedZ a1_0 a1_1 a1_2 a1_3 a1_4 a1_5 a1_6 a1_7 a1_8 a1_9 a1_10 a1_11 a1_12 a1_13 a1_14 a1_15 a0).2.2 = 0
  · rw [if_pos he] at h
    rw [errV_zero he] at hu
    obtain ⟨-, h1, h2⟩ | h1 := usedZ_way a1_0 a1_1 a1_2 a1_3 a1_4 a1_5 a1_6 a1_7 a1_8 a1_9 a1_10 a1_11 a1_12 a1_13 a1_14 a1_15 a0
    · rw [← nat_of (n := (usedZ a1_0 a1_1 a1_2 a1_3 a1_4 a1_5 a1_6 a1_7 a1_8 a1_9 a1_10 a1_11 a1_12 a1_13 a1_14 a1_15 a0).1) (by omega)] at hu
      have h1 := At_ok (stV a1_0 a1_1 a1_2 a1_3 a1_4 a1_5 a1_6 a1_7 a1_8 a1_9 a1_10 a1_11 a1_12 a1_13 a1_14 a1_15) (msV a1_0 a1_1 a1_2 a1_3 a1_4 a1_5 a1_6 a1_7 a1_8 a1_9 a1_10 a1_11 a1_12 a1_13 a1_14 a1_15 a0) a0 _ a1_2 a2 (usedZ a1_0 a1_1 a1_2 a1_3 a1_4 a1_5 a1_6 a1_7 a1_8 a1_9 a1_10 a1_11 a1_12 a1_13 a1_14 a1_15 a0).1.toNat (by omega) w rfl rfl (builds_st a1_0 a1_1 a1_2 a1_3 a1_4 a1_5 a1_6 a1_7 a1_8 a1_9 a1_10 a1_11 a1_12 a1_13 a1_14 a1_15 a0) hu hG
      rw [Prod.mk.injEq, Prod.mk.injEq] at h
      obtain ⟨rfl, rfl, rfl⟩ := h
      exact callsIn_wide.1 h1
    · exact absurd he h1
  · rw [if_neg he] at h
    rw [errV_some he] at hu
    have h1 := At_err (stV a1_0 a1_1 a1_2 a1_3 a1_4 a1_5 a1_6 a1_7 a1_8 a1_9 a1_10 a1_11 a1_12 a1_13 a1_14 a1_15) (msV a1_0 a1_1 a1_2 a1_3 a1_4 a1_5 a1_6 a1_7 a1_8 a1_9 a1_10 a1_11 a1_12 a1_13 a1_14 a1_15 a0) a0 _ _ _ a2 w rfl (builds_st a1_0 a1_1 a1_2 a1_3 a1_4 a1_5 a1_6 a1_7 a1_8 a1_9 a1_10 a1_11 a1_12 a1_13 a1_14 a1_15 a0) hu hG
    rw [Prod.mk.injEq, Prod.mk.injEq] at h
    obtain ⟨rfl, rfl, rfl⟩ := h
    exact h1
end Go.Proofs.YtjaoaakljcnmeaaDoor.G
