/- Chapter 1: Mul. -/
import Derived.Test.YtlpkjjeihbdocaaDoorF3
namespace Go.Proofs.YtlpkjjeihbdocaaDoor.G
open Go.RowKit Go.Proofs.YtlpkjjeihbdocaaDoorW.PrintWords Go.Proofs.YtlpkjjeihbdocaaDoorW.PrintLast Go.Proofs.YtlpkjjeihbdocaaDoorW.PrintMore

theorem mul_in (a b : Int) (ha : -1073741824 ≤ a ∧ a ≤ 1073741824) (hb : -1073741824 ≤ b ∧ b ≤ 1073741824) : -1152921504606846976 ≤ a * b ∧ a * b ≤ 1152921504606846976 := by
  have h : (a * b).natAbs ≤ 1073741824 * 1073741824 := by
    rw [Int.natAbs_mul]
    exact Nat.mul_le_mul (by omega) (by omega)
  omega
theorem i64_in {x : Int} (h1 : -9223372036854775808 ≤ x) (h2 : x ≤ 9223372036854775807) : wrap64 x = x := by unfold wrap64; omega

def unit_Mul.f (a0 : Int) (a1 : Int) : Option (Int × Int) := some (if lenB a0 then (if a0 = 0 then (0, 0) else if lenB a1 then resZ (a0 * a1) else (0, 10)) else (0, 10))
set_option maxRecDepth 100000 in
set_option maxHeartbeats 1000000 in
theorem unit_Mul.calls (a0 : Int) (a1 : Int) (r1 : Int) (r2 : Int) (w : World) (h : unit_Mul.f a0 a1 = some (r1, r2)) (hG : GOK w) :
    Calls Tryd.prog 22 #[.int .i64 a0, .int .i64 a1] w fun e w' => e = .returned (.tuple #[.int .i64 r1, .int .i64 r2]) ∧ Below w.heap.size w w' := by
  have hr := Option.some.inj h
  clear h
  obtain ⟨sa, sb, sc, hS⟩ := hG
  have HS := Aside0.mk hS
  clear hS
  have g0 := HS.out.1
  by_cases h0 : lenB a0 = true
  · rw [if_pos h0] at hr
    have H0 := Aside0.mk h0
    by_cases hz : a0 = 0
    · rw [if_pos hz, Prod.mk.injEq] at hr
      obtain ⟨rfl, rfl⟩ := hr
      subst hz
      clear h0
      go_enter Tryd.func22, Tryd.ntmps22
      go_wp2_with (first | (go_at_call 39; with_reducible refine (of_any 0 a1 _).mono ?_; rintro e w1 ⟨rfl, hb⟩; have HB1 := Aside0.mk (below_alloc hb (.cells #[.int .i64 0, .int .i64 a1] 56)); clear hb) | (go_at_call 17; with_reducible refine (right_any 0 _).mono ?_; rintro e w' ⟨rfl, rfl⟩; rw [H0.out]))
      go_ret2
      exact ⟨rfl, HB1.out⟩
    · rw [if_neg hz] at hr
      by_cases h1 : lenB a1 = true
      · rw [if_pos h1] at hr
        have HL := Aside0.mk (show (lenB a0 && lenB a1) = true by rw [h0, h1]; rfl)
        have hm := mul_in a0 a1 (by simpa [lenB] using h0) (by simpa [lenB] using h1)
        have hw := i64_in (x := a0 * a1) (by omega) (by omega)
        have HR := Aside0.mk hr
        have hz' : (a0 == 0) = false := by simp [hz]
        clear h0 h1 hr hm
        go_enter Tryd.func22, Tryd.ntmps22
        go_wp2_with (first | (go_at_call 39; with_reducible refine (of_any a0 a1 _).mono ?_; rintro e w1 ⟨rfl, hb⟩; rw [HL.out]; have HB1 := Aside0.mk (below_alloc hb (.cells #[.int .i64 a0, .int .i64 a1] 56)); clear hb) | (go_at_call 17; with_reducible refine (right_any a0 _).mono ?_; rintro e w' ⟨rfl, rfl⟩; rw [H0.out]) | (go_at_call 40; refine (result_any _ sa sb sc _ (HS.out.below HB1.out)).mono ?_; rintro e w2 ⟨rfl, rfl⟩))
        go_ret2
        have e1 : (resZ (a0 * a1)).1 = r1 := by rw [HR.out]
        have e2 : (resZ (a0 * a1)).2 = r2 := by rw [HR.out]
        rw [← e1, ← e2]
        exact ⟨rfl, HB1.out⟩
      · rw [if_neg h1, Prod.mk.injEq] at hr
        obtain ⟨rfl, rfl⟩ := hr
        have HL := Aside0.mk (show (lenB a0 && lenB a1) = false by rw [Bool.eq_false_iff.mpr h1, Bool.and_false])
        have hz' : (a0 == 0) = false := by simp [hz]
        clear h0 h1
        go_enter Tryd.func22, Tryd.ntmps22
        go_wp2_with (first | (go_at_call 39; with_reducible refine (of_any a0 a1 _).mono ?_; rintro e w1 ⟨rfl, hb⟩; rw [HL.out]; have HB1 := Aside0.mk (below_alloc hb (.cells #[.int .i64 a0, .int .i64 a1] 56)); have g1 := pw_cell_below HB1.out g0; have g2 := pw_cell_below hb g0; clear hb) | (go_at_call 17; with_reducible refine (right_any a0 _).mono ?_; rintro e w' ⟨rfl, rfl⟩; rw [H0.out]) | (go_at_call 31; refine (told_over sa sb sc _ (HS.out.below HB1.out)).mono ?_; rintro e w2 ⟨rfl, rfl⟩))
        go_ret2
        exact ⟨rfl, HB1.out⟩
  · rw [if_neg h0, Prod.mk.injEq] at hr
    obtain ⟨rfl, rfl⟩ := hr
    have H0 := Aside0.mk (Bool.eq_false_iff.mpr h0)
    clear h0
    go_enter Tryd.func22, Tryd.ntmps22
    go_wp2_with (first | (go_at_call 39; with_reducible refine (of_any a0 a1 _).mono ?_; rintro e w1 ⟨rfl, hb⟩; have HB1 := Aside0.mk (below_alloc hb (.cells #[.int .i64 a0, .int .i64 a1] 56)); have g1 := pw_cell_below HB1.out g0; have g2 := pw_cell_below hb g0; clear hb) | (go_at_call 17; with_reducible refine (right_any a0 _).mono ?_; rintro e w' ⟨rfl, rfl⟩; rw [H0.out]) | (go_at_call 31; refine (told_over sa sb sc _ (HS.out.below HB1.out)).mono ?_; rintro e w2 ⟨rfl, rfl⟩))
    go_ret2
    exact ⟨rfl, HB1.out⟩
end Go.Proofs.YtlpkjjeihbdocaaDoor.G
