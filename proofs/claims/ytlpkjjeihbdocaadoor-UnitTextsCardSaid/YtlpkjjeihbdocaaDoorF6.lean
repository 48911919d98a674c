/- Chapter 1: Div, Up. Written by mkF6.py. -/
import Derived.Test.YtlpkjjeihbdocaaDoorF5
namespace Go.Proofs.YtlpkjjeihbdocaaDoor.G
open Go.RowKit Go.Proofs.YtlpkjjeihbdocaaDoorW.PrintWords Go.Proofs.YtlpkjjeihbdocaaDoorW.PrintLast Go.Proofs.YtlpkjjeihbdocaaDoorW.PrintMore

set_option maxRecDepth 100000 in
theorem divided_over (a n : Int) (sa sb sc : Addr) (w : World) (ha : lenB a = false) (hS : Sent w sa sb sc) :
    Calls Tryd.prog 41 #[.int .i64 a, .int .i64 n] w fun e w' => e = .returned (.tuple #[.int .i64 0, .bool false, .iface 90 (.pointer (some sa))]) ∧ Below w.heap.size w w' := by
  have HA := Aside0.mk ha
  have g0 := hS.1
  clear ha hS
  go_enter Tryd.func41, Tryd.ntmps41
  go_wp2_with (go_at_call 17; with_reducible refine (right_any a _).mono ?_; rintro e w' ⟨rfl, rfl⟩; rw [HA.out])
  go_quiet (fail)
  go_wp2
  go_ret3
  exact ⟨rfl, pw_below_drewN (Below.refl _ _) _⟩
set_option maxRecDepth 100000 in
theorem divided_zero (a : Int) (sa sb sc : Addr) (w : World) (ha : lenB a = true) (hS : Sent w sa sb sc) :
    Calls Tryd.prog 41 #[.int .i64 a, .int .i64 0] w fun e w' => e = .returned (.tuple #[.int .i64 0, .bool false, .iface 90 (.pointer (some sc))]) ∧ Below w.heap.size w w' := by
  have HA := Aside0.mk ha
  have g0 := hS.2.2.1
  clear ha hS
  go_enter Tryd.func41, Tryd.ntmps41
  go_wp2_with (go_at_call 17; with_reducible refine (right_any a _).mono ?_; rintro e w' ⟨rfl, rfl⟩; rw [HA.out])
  go_quiet (fail)
  go_wp2
  go_ret3
  exact ⟨rfl, pw_below_drewN (Below.refl _ _) _⟩

def unit_Div.f (a0 : Int) (a1 : Int) : Option (Int × Int) := if r64 a1 then some (if lenB a0 then (if a1 = 0 then (0, 11) else (divZ a0 a1, 0)) else (0, 10)) else none
set_option maxRecDepth 100000 in
set_option maxHeartbeats 1000000 in
theorem unit_Div.calls (a0 : Int) (a1 : Int) (r1 : Int) (r2 : Int) (w : World) (h : unit_Div.f a0 a1 = some (r1, r2)) (hG : GOK w) :
    Calls Tryd.prog 20 #[.int .i64 a0, .int .i64 a1] w fun e w' => e = .returned (.tuple #[.int .i64 r1, .int .i64 r2]) ∧ Below w.heap.size w w' := by
  unfold unit_Div.f at h
  obtain ⟨sa, sb, sc, hS⟩ := hG
  have HS := Aside0.mk hS
  by_cases h64 : r64 a1
  · rw [if_pos h64] at h
    have hr := Option.some.inj h
    clear h
    by_cases h0 : lenB a0 = true
    · rw [if_pos h0] at hr
      by_cases hz : a1 = 0
      · rw [if_pos hz, Prod.mk.injEq] at hr
        obtain ⟨rfl, rfl⟩ := hr
        subst hz
        have HC := Aside0.mk (divided_zero a0 sa sb sc w h0 hS)
        clear h0 hS h64
        go_enter Tryd.func20, Tryd.ntmps20
        go_wp2_with (first | (go_at_call 41; with_reducible refine (HC.out).mono ?_; rintro e w1 ⟨rfl, hb⟩; have HB1 := Aside0.mk hb; clear hb) | (go_at_call 31; with_reducible refine (told_zero sa sb sc _ (HS.out.below HB1.out)).mono ?_; rintro e w2 ⟨rfl, rfl⟩))
        go_ret2
        exact ⟨rfl, HB1.out⟩
      · rw [if_neg hz, Prod.mk.injEq] at hr
        obtain ⟨rfl, rfl⟩ := hr
        have HC := Aside0.mk (divided_ok a0 a1 w h0 hz h64)
        have HQ := Aside0.mk (tdiv_in a1 h0)
        clear h0 hS h64
        go_enter Tryd.func20, Tryd.ntmps20
        go_wp2_with (first | (go_at_call 41; with_reducible refine (HC.out).mono ?_; rintro e w1 ⟨rfl, hb⟩; have HB1 := Aside0.mk hb; clear hb) | (go_at_call 31; with_reducible refine (told_nil sa sb sc _ (HS.out.below HB1.out)).mono ?_; rintro e w2 ⟨rfl, rfl⟩))
        go_ret2
        exact ⟨rfl, HB1.out⟩
    · rw [if_neg h0, Prod.mk.injEq] at hr
      obtain ⟨rfl, rfl⟩ := hr
      have HC := Aside0.mk (divided_over a0 a1 sa sb sc w (Bool.eq_false_iff.mpr h0) hS)
      clear h0 hS h64
      go_enter Tryd.func20, Tryd.ntmps20
      go_wp2_with (first | (go_at_call 41; with_reducible refine (HC.out).mono ?_; rintro e w1 ⟨rfl, hb⟩; have HB1 := Aside0.mk hb; clear hb) | (go_at_call 31; with_reducible refine (told_over sa sb sc _ (HS.out.below HB1.out)).mono ?_; rintro e w2 ⟨rfl, rfl⟩))
      go_ret2
      exact ⟨rfl, HB1.out⟩
  · rw [if_neg h64] at h
    cases h

def unit_Up.f (a0 : Int) (a1 : Int) : Option (Int × Int) := if r64 a1 then some (if lenB a0 then (if a1 = 0 then (0, 11) else ((if (a0.tmod a1 != 0) = true then divZ a0 a1 + 1 else divZ a0 a1), 0)) else (0, 10)) else none
set_option maxRecDepth 100000 in
set_option maxHeartbeats 1000000 in
theorem unit_Up.calls (a0 : Int) (a1 : Int) (r1 : Int) (r2 : Int) (w : World) (h : unit_Up.f a0 a1 = some (r1, r2)) (hG : GOK w) :
    Calls Tryd.prog 21 #[.int .i64 a0, .int .i64 a1] w fun e w' => e = .returned (.tuple #[.int .i64 r1, .int .i64 r2]) ∧ Below w.heap.size w w' := by
  unfold unit_Up.f at h
  obtain ⟨sa, sb, sc, hS⟩ := hG
  have HS := Aside0.mk hS
  by_cases h64 : r64 a1
  · rw [if_pos h64] at h
    have hr := Option.some.inj h
    clear h
    by_cases h0 : lenB a0 = true
    · rw [if_pos h0] at hr
      by_cases hz : a1 = 0
      · rw [if_pos hz, Prod.mk.injEq] at hr
        obtain ⟨rfl, rfl⟩ := hr
        subst hz
        have HC := Aside0.mk (divided_zero a0 sa sb sc w h0 hS)
        clear h0 hS h64
        go_enter Tryd.func21, Tryd.ntmps21
        go_wp2_with (first | (go_at_call 41; with_reducible refine (HC.out).mono ?_; rintro e w1 ⟨rfl, hb⟩; have HB1 := Aside0.mk hb; clear hb) | (go_at_call 31; with_reducible refine (told_zero sa sb sc _ (HS.out.below HB1.out)).mono ?_; rintro e w2 ⟨rfl, rfl⟩))
        go_ret2
        exact ⟨rfl, HB1.out⟩
      · rw [if_neg hz, Prod.mk.injEq] at hr
        obtain ⟨rfl, rfl⟩ := hr
        have HC := Aside0.mk (divided_ok a0 a1 w h0 hz h64)
        have HQ := Aside0.mk (tdiv_in a1 h0)
        clear h0 hS h64
        have hd : -1073741825 ≤ divZ a0 a1 ∧ divZ a0 a1 ≤ 1073741824 := by have := HQ.out; unfold divZ; split <;> omega
        generalize divZ a0 a1 = q at *
        by_cases hm : a0.tmod a1 = 0
        · have hm' : (a0.tmod a1 != 0) = false := by simp [hm]
          rw [hm'] at HC
          rw [hm', if_neg (by simp)]
          clear hm hm'
          go_enter Tryd.func21, Tryd.ntmps21
          go_wp2_with (first | (go_at_call 41; with_reducible refine (HC.out).mono ?_; rintro e w1 ⟨rfl, hb⟩; have HB1 := Aside0.mk hb; clear hb) | (go_at_call 31; with_reducible refine (told_nil sa sb sc _ (HS.out.below HB1.out)).mono ?_; rintro e w2 ⟨rfl, rfl⟩))
          go_ret2
          exact ⟨rfl, HB1.out⟩
        · have hm' : (a0.tmod a1 != 0) = true := by simp [hm]
          rw [hm'] at HC
          rw [hm', if_pos rfl]
          clear hm hm'
          go_enter Tryd.func21, Tryd.ntmps21
          go_wp2_with (first | (go_at_call 41; with_reducible refine (HC.out).mono ?_; rintro e w1 ⟨rfl, hb⟩; have HB1 := Aside0.mk hb; clear hb) | (go_at_call 31; with_reducible refine (told_nil sa sb sc _ (HS.out.below HB1.out)).mono ?_; rintro e w2 ⟨rfl, rfl⟩))
          go_ret2
          exact ⟨rfl, HB1.out⟩
    · rw [if_neg h0, Prod.mk.injEq] at hr
      obtain ⟨rfl, rfl⟩ := hr
      have HC := Aside0.mk (divided_over a0 a1 sa sb sc w (Bool.eq_false_iff.mpr h0) hS)
      clear h0 hS h64
      go_enter Tryd.func21, Tryd.ntmps21
      go_wp2_with (first | (go_at_call 41; with_reducible refine (HC.out).mono ?_; rintro e w1 ⟨rfl, hb⟩; have HB1 := Aside0.mk hb; clear hb) | (go_at_call 31; with_reducible refine (told_over sa sb sc _ (HS.out.below HB1.out)).mono ?_; rintro e w2 ⟨rfl, rfl⟩))
      go_ret2
      exact ⟨rfl, HB1.out⟩
  · rw [if_neg h64] at h
    cases h
end Go.Proofs.YtlpkjjeihbdocaaDoor.G
